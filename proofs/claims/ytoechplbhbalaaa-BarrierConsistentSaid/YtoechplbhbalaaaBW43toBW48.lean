/- Layer 21: consistent says yes. -/
import Derived.Test.YtoechplbhbalaaaBW29toBW44g
import Derived.KernelRfl
import Derived.Test.YtoechplbhbalaaaBrtoSp
set_option linter.all false
section
open Go Go.Proofs Sx
namespace Sx
structure ConD (l wa wb wc : D) : Prop where
 hl : l.Is Int
 a : wa.Is Wr ∧ wa.len ≤ 1000000
 b : wb.Is Wr ∧ wb.len ≤ 1000000
 c : wc.Is Wr ∧ wc.len ≤ 1000000
 ok : ConsOk ⟨zCo, fun _ => noMb, [], tri (wa.to Wr) (wb.to Wr) (wc.to Wr), 0, 0, false, 0⟩ (l.to Int)
abbrev cl39 (cn cr cp cdl : Int) (cps css : D) (cv : Bool) (p1 p2 p3 p4 : Int) (pf : Bool) (p6 : Int) (pw ph : D) (q1 q2 q3 q4 : Int) (qf : Bool) (q6 : Int) (qw qh : D) (r1 r2 r3 r4 : Int) (rf : Bool) (r6 : Int) (rw rh : D) (fl wa wb wc : D) (now clk : Int) (rt : Bool) (st : Int) : List SV := (cl9 cn cr cp cdl cps css cv p1 p2 p3 p4 pf p6 pw ph q1 q2 q3 q4 qf q6 qw qh r1 r2 r3 r4 rf r6 rw rh fl wa wb wc now clk rt st)
end Sx
namespace Go.Proofs.Ytoechplbhbalaaa
set_option maxRecDepth 100000
set_option maxHeartbeats 0
theorem int_cells3 {l : D} (h : l.Is Int) (h3 : (l.to Int).length = 3) :
  (((0 : Int) ≤ 0 ∧ 0 < (l.len : Int) ∧ l.sz = 1) ∧ l.HasCell 0 0 (.int .i64) ∧ l.getInt 0 0 = (l.to Int).getD 0 0) ∧
  (((0 : Int) ≤ 1 ∧ 1 < (l.len : Int) ∧ l.sz = 1) ∧ l.HasCell 1 0 (.int .i64) ∧ l.getInt 1 0 = (l.to Int).getD 1 0) ∧
  (((0 : Int) ≤ 2 ∧ 2 < (l.len : Int) ∧ l.sz = 1) ∧ l.HasCell 2 0 (.int .i64) ∧ l.getInt 2 0 = (l.to Int).getD 2 0) := by
 have e : ∀ j : Nat, (hj : j < (l.to Int).length) → (l.to Int).getD j 0 = (l.to Int)[j] := fun j hj => by simp [hj]
 obtain ⟨a1, a2, a3⟩ := int_at h (j := 0) (by omega)
 obtain ⟨b1, b2, b3⟩ := int_at h (j := 1) (by omega)
 obtain ⟨c1, c2, c3⟩ := int_at h (j := 2) (by omega)
 exact ⟨⟨a1, a2, a3.trans (e 0 (by omega)).symm⟩, ⟨b1, b2, b3.trans (e 1 (by omega)).symm⟩, ⟨c1, c2, c3.trans (e 2 (by omega)).symm⟩⟩

theorem cutK {wa wb : D} {ga gb la lb : Int} (hA : wa.Is Wr) (hB : wb.Is Wr) {i k : Nat} (hi : i < (wa.to Wr).length) (hcut : ∀ i k : Nat, (hi : i < (wa.to Wr).length) → (hk : k < (wb.to Wr).length) → (k : Int) < gb → ga ≤ i → ¬(0 < (wa.to Wr)[i].acked ∧ (wa.to Wr)[i].acked < (wb.to Wr)[k].issued))
  (ea : la = ga) (eb : lb = gb) (h1 : decide ((k : Int) < (wb.len : Int)) = true) (h2 : decide ((k : Int) < lb) = true) :
  k < (wb.to Wr).length ∧ ((0 ≤ (k : Int) ∧ (k : Int) < (wb.len : Int) ∧ wb.sz = 4) ∧ D.HasCell wb (Int.toNat (k : Int)) 0 (.int .i64)) ∧
  (decide (wa.getInt (Int.toNat (i : Int)) 1 > 0) = true → decide (wa.getInt (Int.toNat (i : Int)) 1 < wb.getInt (Int.toNat (k : Int)) 0) = true → decide ((i : Int) ≥ la) = true → False) := by
 have lb := D.Is.length (α := Wr) wb
 have hkl : k < (wb.to Wr).length := by have := of_decide_eq_true h1; omega
 obtain ⟨i1, i2, i3, i4, i5⟩ := wr_cell hA hi
 obtain ⟨k1, k2, k3, k4, k5⟩ := wr_cell hB hkl
 refine ⟨hkl, ⟨⟨by omega, by omega, hB.size hkl⟩, k1.1⟩, fun h3 h4 h5 => ?_⟩
 have h2 := of_decide_eq_true h2
 have h3 := of_decide_eq_true h3
 have h4 := of_decide_eq_true h4
 have h5 := of_decide_eq_true h5
 rw [show Int.toNat (i : Int) = i from rfl, i3] at h3
 rw [show Int.toNat (i : Int) = i from rfl, show Int.toNat (k : Int) = k from rfl, i3, k2] at h4
 exact hcut i k hi hkl (by omega) (by omega) ⟨h3, h4⟩
theorem treeK {C : Ctx} {R : Value → World → Prop} {na nb ia ja ib jb i0 i1 k0 kc : Prop} {c1 c2 c3 c4 c5 : Bool} {tI tK tR : Tree} (ha : na) (hb : nb) (hia : ia ∧ ja) (hib : ib ∧ jb) (hi : i0 ∧ i1) (fin : tI.holds Try.prog C R)
  (hk : c1 = true → c2 = true → (k0 ∧ kc) ∧ tK.holds Try.prog C R ∧ (c3 = true → c4 = true → c5 = true → False)) : ((Tree.need nb (.br c1 (.need ib (.need jb (.br c2 (.need na (.need i0 (.need i1 (.all fun _ => .br c3 (.br c4 (.need (c3 = true) (.need (c3 = true) (.need (c3 = true) (.need (c3 = true) (.need (c3 = true) (.need (nb) (.need (c3 = true) (.need (c3 = true) (.need (c3 = true) (.need (k0) (.need (c3 = true) (.need (c3 = true) (.need (kc) (.need (c3 = true) (.need (c3 = true) (.need (c4 = true) (.need (c4 = true) (.need (c4 = true) (.need (c4 = true) (.need (ia) (.need (c4 = true) (.need (ja) (.need (c4 = true) (.need (c4 = true) (.br c5 tR tK))))))))))))))))))))))))) (.need (c3 = true) (.need (c3 = true) (.need (c3 = true) (.need (c3 = true) (.need (c3 = true) (.need (nb) (.need (c3 = true) (.need (c3 = true) (.need (c3 = true) (.need (k0) (.need (c3 = true) (.need (c3 = true) (.need (kc) (.need (c3 = true) (.need (c3 = true) (.need (c4 = false) (.need (c4 = false) (.need (c4 = false) (.need (c4 = false) (.need (c4 = false) (.need (c4 = false) (.need (c4 = false) tK))))))))))))))))))))))) (.need (c3 = false) (.need (c3 = false) (.need (c3 = false) (.need (c3 = false) (.need (c3 = false) (.need (c3 = false) (.need (c3 = false) (.need (c3 = false) (.need (c3 = false) (.need (c3 = false) (.need (c3 = false) (.need (c3 = false) tK)))))))))))))))) tI))) tI))).holds Try.prog C R := by
 refine ⟨hb, fun h1 => ⟨hib.1, hib.2, fun h2 => ?_, fun _ => fin⟩, fun _ => fin⟩
 obtain ⟨hkk, nxt, hno⟩ := hk h1 h2
 refine ⟨ha, hi.1, hi.2, fun _ => ⟨fun h3 => ⟨fun h4 => ?_, fun h4 => ?_⟩, fun h3 => ?_⟩⟩
 ·repeat' first
  | exact h3
  | exact h4
  | exact hb
  | exact hkk.1
  | exact hkk.2
  | exact hia.1
  | exact hia.2
  | exact fun _ => nxt
  | exact fun h5 => (hno h3 h4 h5).elim
  | refine ⟨?_, ?_⟩
 ·repeat' first
  | exact h3
  | exact h4
  | exact hb
  | exact hkk.1
  | exact hkk.2
  | exact nxt
  | refine ⟨?_, ?_⟩
 ·repeat' first
  | exact h3
  | exact nxt
  | refine ⟨?_, ?_⟩

section
variable {w : World} {H : HV} {cn cr cp cdl : Int} {cps css : D} {cv : Bool} {p1 p2 p3 p4 : Int} {pf : Bool} {p6 : Int} {pw ph : D} {q1 q2 q3 q4 : Int} {qf : Bool} {q6 : Int} {qw qh : D} {r1 r2 r3 r4 : Int} {rf : Bool} {r6 : Int} {rw rh : D} {fl wa wb wc : D} {now clk : Int} {rt : Bool} {st : Int} {l : D}

theorem conA3_run (hD : ConD l wa wb wc) : Runs Try.prog ⟨w, H⟩ (conA (cl39 cn cr cp cdl cps css cv p1 p2 p3 p4 pf p6 pw ph q1 q2 q3 q4 qf q6 qw qh r1 r2 r3 r4 rf r6 rw rh fl wa wb wc now clk rt st) l 3) (RetS w H (.lb true)) := by
 obtain ⟨⟨a1, a2, a3⟩, ⟨b1, b2, b3⟩, ⟨c1, c2, c3⟩⟩ := int_cells3 hD.hl hD.ok.plen
 have la := D.Is.length (α := Wr) wa
 have lb := D.Is.length (α := Wr) wb
 have lc := D.Is.length (α := Wr) wc
 have x0 : decide (l.getInt 0 0 ≤ (wa.len : Int)) = true := decide_eq_true (by rw [a3, la]; exact hD.ok.le 0)
 have x1 : decide (l.getInt 1 0 ≤ (wb.len : Int)) = true := decide_eq_true (by rw [b3, lb]; exact hD.ok.le 1)
 have x2 : decide (l.getInt 2 0 ≤ (wc.len : Int)) = true := decide_eq_true (by rw [c3, lc]; exact hD.ok.le 2)
 have n0 : (0 : Int) ≤ 0 ∧ (0 : Int) < ((3 : Nat) : Int) := by omega
 have n1 : (0 : Int) ≤ 1 ∧ (1 : Int) < ((3 : Nat) : Int) := by omega
 have n2 : (0 : Int) ≤ 2 ∧ (2 : Int) < ((3 : Nat) : Int) := by omega
 refine unroll_sound rfl ?_
 apply exec_sound ctPOk 900
 rw [conA_go]
 refine ⟨fun h => absurd h (by decide), fun _ hs => ⟨fun _ => ⟨fun _ => ?_, fun h => absurd (x1.symm.trans h) (by decide)⟩, fun h => absurd (x0.symm.trans h) (by decide)⟩⟩
 repeat' first
 | exact a1
 | exact b1
 | exact c1
 | exact a2
 | exact b2
 | exact c2
 | exact x0
 | exact x1
 | exact n0
 | exact n1
 | exact n2
 | exact ret_sure x2
 | refine ⟨?_, ?_⟩

theorem conB23_run (hD : ConD l wa wb wc) : Runs Try.prog ⟨w, H⟩ (conB (cl39 cn cr cp cdl cps css cv p1 p2 p3 p4 pf p6 pw ph q1 q2 q3 q4 qf q6 qw qh r1 r2 r3 r4 rf r6 rw rh fl wa wb wc now clk rt st) l 2 3) (RetS w H (.lb true)) := by
 refine unroll_sound rfl ?_
 apply exec_sound ctPOk 900
 rw [conB_go]
 refine ⟨fun h => absurd h (by decide), fun _ => ?_⟩
 rw [show IntKind.i64.wrap (2 + 1) = 3 by decide]
 exact conA3_run hD

theorem conK22_run (hD : ConD l wa wb wc) {i : Nat} (hi : i < (wc.to Wr).length) (next : Runs Try.prog ⟨w, H⟩ (conI (cl39 cn cr cp cdl cps css cv p1 p2 p3 p4 pf p6 pw ph q1 q2 q3 q4 qf q6 qw qh r1 r2 r3 r4 rf r6 rw rh fl wa wb wc now clk rt st) l 2 2 ((i + 1 : Nat) : Int)) (RetS w H (.lb true))) :
  ∀ k : Nat, k ≤ (wc.to Wr).length → Runs Try.prog ⟨w, H⟩ (conK (cl39 cn cr cp cdl cps css cv p1 p2 p3 p4 pf p6 pw ph q1 q2 q3 q4 qf q6 qw qh r1 r2 r3 r4 rf r6 rw rh fl wa wb wc now clk rt st) l 2 2 i k) (RetS w H (.lb true)) := by
 refine runs_loop (fun k : Nat => conK (cl39 cn cr cp cdl cps css cv p1 p2 p3 p4 pf p6 pw ph q1 q2 q3 q4 qf q6 qw qh r1 r2 r3 r4 rf r6 rw rh fl wa wb wc now clk rt st) l 2 2 i k) (fun k => k ≤ (wc.to Wr).length) (fun k => (wc.to Wr).length - k) (fun _ => rfl) fun k hk ih => ?_
 have l2 := D.Is.length (α := Wr) wc
 have m2 := hD.c.2
 have hip := int_cells3 hD.hl hD.ok.plen
 have ia := hip.2.2
 have ib := hip.2.2
 have na : (0 : Int) ≤ 2 ∧ (2 : Int) < ((3 : Nat) : Int) := by omega
 have nb : (0 : Int) ≤ 2 ∧ (2 : Int) < ((3 : Nat) : Int) := by omega
 have i1 := (wr_cell hD.c.1 hi).1
 have i0 : 0 ≤ (i : Int) ∧ (i : Int) < (wc.len : Int) ∧ wc.sz = 4 := ⟨by omega, by omega, hD.c.1.size hi⟩
 apply exec_sound ctPOk 900
 rw [conK22_go]
 have fin : Runs Try.prog ⟨w, H⟩ (conI (cl39 cn cr cp cdl cps css cv p1 p2 p3 p4 pf p6 pw ph q1 q2 q3 q4 qf q6 qw qh r1 r2 r3 r4 rf r6 rw rh fl wa wb wc now clk rt st) l 2 2 (IntKind.i64.wrap ((i : Int) + 1))) (RetS w H (.lb true)) := by
  rw [wrap_succ hi (by omega)]; exact next
 refine treeK na nb ⟨ia.1, ia.2.1⟩ ⟨ib.1, ib.2.1⟩ ⟨i0, i1⟩ fin fun h1 h2 => ?_
 obtain ⟨hkl, h3, h4⟩ := cutK hD.c.1 hD.c.1 hi (fun i k => hD.ok.cut 2 2 i k) ia.2.2 ib.2.2 h1 h2
 refine ⟨h3, ?_, h4⟩
 have := ih (k + 1) hkl (by omega)
 rw [← wrap_succ hkl (by omega)] at this
 exact this

theorem conI22_run (hD : ConD l wa wb wc) : ∀ i : Nat, i ≤ (wc.to Wr).length → Runs Try.prog ⟨w, H⟩ (conI (cl39 cn cr cp cdl cps css cv p1 p2 p3 p4 pf p6 pw ph q1 q2 q3 q4 qf q6 qw qh r1 r2 r3 r4 rf r6 rw rh fl wa wb wc now clk rt st) l 2 2 i) (RetS w H (.lb true)) := by
 refine runs_loop (fun i : Nat => conI (cl39 cn cr cp cdl cps css cv p1 p2 p3 p4 pf p6 pw ph q1 q2 q3 q4 qf q6 qw qh r1 r2 r3 r4 rf r6 rw rh fl wa wb wc now clk rt st) l 2 2 i) (fun i => i ≤ (wc.to Wr).length) (fun i => (wc.to Wr).length - i) (fun _ => rfl) fun i hi ih => ?_
 have l2 := D.Is.length (α := Wr) wc
 have m2 := hD.c.2
 apply exec_sound ctPOk 900
 rw [conI2_go]
 have nn : (0 : Int) ≤ 2 ∧ (2 : Int) < ((3 : Nat) : Int) := by omega
 refine ⟨nn, fun hc => ?_, fun hc => ?_⟩
 ·have hc : i < (wc.to Wr).length := by have := of_decide_eq_true hc; omega
  exact conK22_run hD hc (ih (i + 1) hc (by omega)) 0 (Nat.zero_le _)
 ·rw [show IntKind.i64.wrap (2 + 1) = 3 by decide]
  exact conB23_run hD

theorem conB22_run (hD : ConD l wa wb wc) : Runs Try.prog ⟨w, H⟩ (conB (cl39 cn cr cp cdl cps css cv p1 p2 p3 p4 pf p6 pw ph q1 q2 q3 q4 qf q6 qw qh r1 r2 r3 r4 rf r6 rw rh fl wa wb wc now clk rt st) l 2 2) (RetS w H (.lb true)) := by
 refine unroll_sound rfl ?_
 apply exec_sound ctPOk 900
 rw [conB_go]
 exact ⟨fun _ => conI22_run hD 0 (Nat.zero_le _), fun h => absurd h (by decide)⟩

theorem conK21_run (hD : ConD l wa wb wc) {i : Nat} (hi : i < (wc.to Wr).length) (next : Runs Try.prog ⟨w, H⟩ (conI (cl39 cn cr cp cdl cps css cv p1 p2 p3 p4 pf p6 pw ph q1 q2 q3 q4 qf q6 qw qh r1 r2 r3 r4 rf r6 rw rh fl wa wb wc now clk rt st) l 2 1 ((i + 1 : Nat) : Int)) (RetS w H (.lb true))) :
  ∀ k : Nat, k ≤ (wb.to Wr).length → Runs Try.prog ⟨w, H⟩ (conK (cl39 cn cr cp cdl cps css cv p1 p2 p3 p4 pf p6 pw ph q1 q2 q3 q4 qf q6 qw qh r1 r2 r3 r4 rf r6 rw rh fl wa wb wc now clk rt st) l 2 1 i k) (RetS w H (.lb true)) := by
 refine runs_loop (fun k : Nat => conK (cl39 cn cr cp cdl cps css cv p1 p2 p3 p4 pf p6 pw ph q1 q2 q3 q4 qf q6 qw qh r1 r2 r3 r4 rf r6 rw rh fl wa wb wc now clk rt st) l 2 1 i k) (fun k => k ≤ (wb.to Wr).length) (fun k => (wb.to Wr).length - k) (fun _ => rfl) fun k hk ih => ?_
 have l1 := D.Is.length (α := Wr) wb
 have m1 := hD.b.2
 have l2 := D.Is.length (α := Wr) wc
 have m2 := hD.c.2
 have hip := int_cells3 hD.hl hD.ok.plen
 have ia := hip.2.2
 have ib := hip.2.1
 have na : (0 : Int) ≤ 2 ∧ (2 : Int) < ((3 : Nat) : Int) := by omega
 have nb : (0 : Int) ≤ 1 ∧ (1 : Int) < ((3 : Nat) : Int) := by omega
 have i1 := (wr_cell hD.c.1 hi).1
 have i0 : 0 ≤ (i : Int) ∧ (i : Int) < (wc.len : Int) ∧ wc.sz = 4 := ⟨by omega, by omega, hD.c.1.size hi⟩
 apply exec_sound ctPOk 900
 rw [conK21_go]
 have fin : Runs Try.prog ⟨w, H⟩ (conI (cl39 cn cr cp cdl cps css cv p1 p2 p3 p4 pf p6 pw ph q1 q2 q3 q4 qf q6 qw qh r1 r2 r3 r4 rf r6 rw rh fl wa wb wc now clk rt st) l 2 1 (IntKind.i64.wrap ((i : Int) + 1))) (RetS w H (.lb true)) := by
  rw [wrap_succ hi (by omega)]; exact next
 refine treeK na nb ⟨ia.1, ia.2.1⟩ ⟨ib.1, ib.2.1⟩ ⟨i0, i1⟩ fin fun h1 h2 => ?_
 obtain ⟨hkl, h3, h4⟩ := cutK hD.c.1 hD.b.1 hi (fun i k => hD.ok.cut 2 1 i k) ia.2.2 ib.2.2 h1 h2
 refine ⟨h3, ?_, h4⟩
 have := ih (k + 1) hkl (by omega)
 rw [← wrap_succ hkl (by omega)] at this
 exact this

theorem conI21_run (hD : ConD l wa wb wc) : ∀ i : Nat, i ≤ (wc.to Wr).length → Runs Try.prog ⟨w, H⟩ (conI (cl39 cn cr cp cdl cps css cv p1 p2 p3 p4 pf p6 pw ph q1 q2 q3 q4 qf q6 qw qh r1 r2 r3 r4 rf r6 rw rh fl wa wb wc now clk rt st) l 2 1 i) (RetS w H (.lb true)) := by
 refine runs_loop (fun i : Nat => conI (cl39 cn cr cp cdl cps css cv p1 p2 p3 p4 pf p6 pw ph q1 q2 q3 q4 qf q6 qw qh r1 r2 r3 r4 rf r6 rw rh fl wa wb wc now clk rt st) l 2 1 i) (fun i => i ≤ (wc.to Wr).length) (fun i => (wc.to Wr).length - i) (fun _ => rfl) fun i hi ih => ?_
 have l1 := D.Is.length (α := Wr) wb
 have m1 := hD.b.2
 have l2 := D.Is.length (α := Wr) wc
 have m2 := hD.c.2
 apply exec_sound ctPOk 900
 rw [conI2_go]
 have nn : (0 : Int) ≤ 2 ∧ (2 : Int) < ((3 : Nat) : Int) := by omega
 refine ⟨nn, fun hc => ?_, fun hc => ?_⟩
 ·have hc : i < (wc.to Wr).length := by have := of_decide_eq_true hc; omega
  exact conK21_run hD hc (ih (i + 1) hc (by omega)) 0 (Nat.zero_le _)
 ·rw [show IntKind.i64.wrap (1 + 1) = 2 by decide]
  exact conB22_run hD

theorem conB21_run (hD : ConD l wa wb wc) : Runs Try.prog ⟨w, H⟩ (conB (cl39 cn cr cp cdl cps css cv p1 p2 p3 p4 pf p6 pw ph q1 q2 q3 q4 qf q6 qw qh r1 r2 r3 r4 rf r6 rw rh fl wa wb wc now clk rt st) l 2 1) (RetS w H (.lb true)) := by
 refine unroll_sound rfl ?_
 apply exec_sound ctPOk 900
 rw [conB_go]
 exact ⟨fun _ => conI21_run hD 0 (Nat.zero_le _), fun h => absurd h (by decide)⟩

theorem conK20_run (hD : ConD l wa wb wc) {i : Nat} (hi : i < (wc.to Wr).length) (next : Runs Try.prog ⟨w, H⟩ (conI (cl39 cn cr cp cdl cps css cv p1 p2 p3 p4 pf p6 pw ph q1 q2 q3 q4 qf q6 qw qh r1 r2 r3 r4 rf r6 rw rh fl wa wb wc now clk rt st) l 2 0 ((i + 1 : Nat) : Int)) (RetS w H (.lb true))) :
  ∀ k : Nat, k ≤ (wa.to Wr).length → Runs Try.prog ⟨w, H⟩ (conK (cl39 cn cr cp cdl cps css cv p1 p2 p3 p4 pf p6 pw ph q1 q2 q3 q4 qf q6 qw qh r1 r2 r3 r4 rf r6 rw rh fl wa wb wc now clk rt st) l 2 0 i k) (RetS w H (.lb true)) := by
 refine runs_loop (fun k : Nat => conK (cl39 cn cr cp cdl cps css cv p1 p2 p3 p4 pf p6 pw ph q1 q2 q3 q4 qf q6 qw qh r1 r2 r3 r4 rf r6 rw rh fl wa wb wc now clk rt st) l 2 0 i k) (fun k => k ≤ (wa.to Wr).length) (fun k => (wa.to Wr).length - k) (fun _ => rfl) fun k hk ih => ?_
 have l0 := D.Is.length (α := Wr) wa
 have m0 := hD.a.2
 have l2 := D.Is.length (α := Wr) wc
 have m2 := hD.c.2
 have hip := int_cells3 hD.hl hD.ok.plen
 have ia := hip.2.2
 have ib := hip.1
 have na : (0 : Int) ≤ 2 ∧ (2 : Int) < ((3 : Nat) : Int) := by omega
 have nb : (0 : Int) ≤ 0 ∧ (0 : Int) < ((3 : Nat) : Int) := by omega
 have i1 := (wr_cell hD.c.1 hi).1
 have i0 : 0 ≤ (i : Int) ∧ (i : Int) < (wc.len : Int) ∧ wc.sz = 4 := ⟨by omega, by omega, hD.c.1.size hi⟩
 apply exec_sound ctPOk 900
 rw [conK20_go]
 have fin : Runs Try.prog ⟨w, H⟩ (conI (cl39 cn cr cp cdl cps css cv p1 p2 p3 p4 pf p6 pw ph q1 q2 q3 q4 qf q6 qw qh r1 r2 r3 r4 rf r6 rw rh fl wa wb wc now clk rt st) l 2 0 (IntKind.i64.wrap ((i : Int) + 1))) (RetS w H (.lb true)) := by
  rw [wrap_succ hi (by omega)]; exact next
 refine treeK na nb ⟨ia.1, ia.2.1⟩ ⟨ib.1, ib.2.1⟩ ⟨i0, i1⟩ fin fun h1 h2 => ?_
 obtain ⟨hkl, h3, h4⟩ := cutK hD.c.1 hD.a.1 hi (fun i k => hD.ok.cut 2 0 i k) ia.2.2 ib.2.2 h1 h2
 refine ⟨h3, ?_, h4⟩
 have := ih (k + 1) hkl (by omega)
 rw [← wrap_succ hkl (by omega)] at this
 exact this

theorem conI20_run (hD : ConD l wa wb wc) : ∀ i : Nat, i ≤ (wc.to Wr).length → Runs Try.prog ⟨w, H⟩ (conI (cl39 cn cr cp cdl cps css cv p1 p2 p3 p4 pf p6 pw ph q1 q2 q3 q4 qf q6 qw qh r1 r2 r3 r4 rf r6 rw rh fl wa wb wc now clk rt st) l 2 0 i) (RetS w H (.lb true)) := by
 refine runs_loop (fun i : Nat => conI (cl39 cn cr cp cdl cps css cv p1 p2 p3 p4 pf p6 pw ph q1 q2 q3 q4 qf q6 qw qh r1 r2 r3 r4 rf r6 rw rh fl wa wb wc now clk rt st) l 2 0 i) (fun i => i ≤ (wc.to Wr).length) (fun i => (wc.to Wr).length - i) (fun _ => rfl) fun i hi ih => ?_
 have l0 := D.Is.length (α := Wr) wa
 have m0 := hD.a.2
 have l2 := D.Is.length (α := Wr) wc
 have m2 := hD.c.2
 apply exec_sound ctPOk 900
 rw [conI2_go]
 have nn : (0 : Int) ≤ 2 ∧ (2 : Int) < ((3 : Nat) : Int) := by omega
 refine ⟨nn, fun hc => ?_, fun hc => ?_⟩
 ·have hc : i < (wc.to Wr).length := by have := of_decide_eq_true hc; omega
  exact conK20_run hD hc (ih (i + 1) hc (by omega)) 0 (Nat.zero_le _)
 ·rw [show IntKind.i64.wrap (0 + 1) = 1 by decide]
  exact conB21_run hD

theorem conB20_run (hD : ConD l wa wb wc) : Runs Try.prog ⟨w, H⟩ (conB (cl39 cn cr cp cdl cps css cv p1 p2 p3 p4 pf p6 pw ph q1 q2 q3 q4 qf q6 qw qh r1 r2 r3 r4 rf r6 rw rh fl wa wb wc now clk rt st) l 2 0) (RetS w H (.lb true)) := by
 refine unroll_sound rfl ?_
 apply exec_sound ctPOk 900
 rw [conB_go]
 exact ⟨fun _ => conI20_run hD 0 (Nat.zero_le _), fun h => absurd h (by decide)⟩

theorem conA2_run (hD : ConD l wa wb wc) : Runs Try.prog ⟨w, H⟩ (conA (cl39 cn cr cp cdl cps css cv p1 p2 p3 p4 pf p6 pw ph q1 q2 q3 q4 qf q6 qw qh r1 r2 r3 r4 rf r6 rw rh fl wa wb wc now clk rt st) l 2) (RetS w H (.lb true)) := by
 refine unroll_sound rfl ?_
 apply exec_sound ctPOk 900
 rw [conA_go]
 exact ⟨fun _ => conB20_run hD, fun h => absurd h (by decide)⟩

theorem conB13_run (hD : ConD l wa wb wc) : Runs Try.prog ⟨w, H⟩ (conB (cl39 cn cr cp cdl cps css cv p1 p2 p3 p4 pf p6 pw ph q1 q2 q3 q4 qf q6 qw qh r1 r2 r3 r4 rf r6 rw rh fl wa wb wc now clk rt st) l 1 3) (RetS w H (.lb true)) := by
 refine unroll_sound rfl ?_
 apply exec_sound ctPOk 900
 rw [conB_go]
 refine ⟨fun h => absurd h (by decide), fun _ => ?_⟩
 rw [show IntKind.i64.wrap (1 + 1) = 2 by decide]
 exact conA2_run hD

theorem conK12_run (hD : ConD l wa wb wc) {i : Nat} (hi : i < (wb.to Wr).length) (next : Runs Try.prog ⟨w, H⟩ (conI (cl39 cn cr cp cdl cps css cv p1 p2 p3 p4 pf p6 pw ph q1 q2 q3 q4 qf q6 qw qh r1 r2 r3 r4 rf r6 rw rh fl wa wb wc now clk rt st) l 1 2 ((i + 1 : Nat) : Int)) (RetS w H (.lb true))) :
  ∀ k : Nat, k ≤ (wc.to Wr).length → Runs Try.prog ⟨w, H⟩ (conK (cl39 cn cr cp cdl cps css cv p1 p2 p3 p4 pf p6 pw ph q1 q2 q3 q4 qf q6 qw qh r1 r2 r3 r4 rf r6 rw rh fl wa wb wc now clk rt st) l 1 2 i k) (RetS w H (.lb true)) := by
 refine runs_loop (fun k : Nat => conK (cl39 cn cr cp cdl cps css cv p1 p2 p3 p4 pf p6 pw ph q1 q2 q3 q4 qf q6 qw qh r1 r2 r3 r4 rf r6 rw rh fl wa wb wc now clk rt st) l 1 2 i k) (fun k => k ≤ (wc.to Wr).length) (fun k => (wc.to Wr).length - k) (fun _ => rfl) fun k hk ih => ?_
 have l1 := D.Is.length (α := Wr) wb
 have m1 := hD.b.2
 have l2 := D.Is.length (α := Wr) wc
 have m2 := hD.c.2
 have hip := int_cells3 hD.hl hD.ok.plen
 have ia := hip.2.1
 have ib := hip.2.2
 have na : (0 : Int) ≤ 1 ∧ (1 : Int) < ((3 : Nat) : Int) := by omega
 have nb : (0 : Int) ≤ 2 ∧ (2 : Int) < ((3 : Nat) : Int) := by omega
 have i1 := (wr_cell hD.b.1 hi).1
 have i0 : 0 ≤ (i : Int) ∧ (i : Int) < (wb.len : Int) ∧ wb.sz = 4 := ⟨by omega, by omega, hD.b.1.size hi⟩
 apply exec_sound ctPOk 900
 rw [conK12_go]
 have fin : Runs Try.prog ⟨w, H⟩ (conI (cl39 cn cr cp cdl cps css cv p1 p2 p3 p4 pf p6 pw ph q1 q2 q3 q4 qf q6 qw qh r1 r2 r3 r4 rf r6 rw rh fl wa wb wc now clk rt st) l 1 2 (IntKind.i64.wrap ((i : Int) + 1))) (RetS w H (.lb true)) := by
  rw [wrap_succ hi (by omega)]; exact next
 refine treeK na nb ⟨ia.1, ia.2.1⟩ ⟨ib.1, ib.2.1⟩ ⟨i0, i1⟩ fin fun h1 h2 => ?_
 obtain ⟨hkl, h3, h4⟩ := cutK hD.b.1 hD.c.1 hi (fun i k => hD.ok.cut 1 2 i k) ia.2.2 ib.2.2 h1 h2
 refine ⟨h3, ?_, h4⟩
 have := ih (k + 1) hkl (by omega)
 rw [← wrap_succ hkl (by omega)] at this
 exact this

theorem conI12_run (hD : ConD l wa wb wc) : ∀ i : Nat, i ≤ (wb.to Wr).length → Runs Try.prog ⟨w, H⟩ (conI (cl39 cn cr cp cdl cps css cv p1 p2 p3 p4 pf p6 pw ph q1 q2 q3 q4 qf q6 qw qh r1 r2 r3 r4 rf r6 rw rh fl wa wb wc now clk rt st) l 1 2 i) (RetS w H (.lb true)) := by
 refine runs_loop (fun i : Nat => conI (cl39 cn cr cp cdl cps css cv p1 p2 p3 p4 pf p6 pw ph q1 q2 q3 q4 qf q6 qw qh r1 r2 r3 r4 rf r6 rw rh fl wa wb wc now clk rt st) l 1 2 i) (fun i => i ≤ (wb.to Wr).length) (fun i => (wb.to Wr).length - i) (fun _ => rfl) fun i hi ih => ?_
 have l1 := D.Is.length (α := Wr) wb
 have m1 := hD.b.2
 have l2 := D.Is.length (α := Wr) wc
 have m2 := hD.c.2
 apply exec_sound ctPOk 900
 rw [conI1_go]
 have nn : (0 : Int) ≤ 1 ∧ (1 : Int) < ((3 : Nat) : Int) := by omega
 refine ⟨nn, fun hc => ?_, fun hc => ?_⟩
 ·have hc : i < (wb.to Wr).length := by have := of_decide_eq_true hc; omega
  exact conK12_run hD hc (ih (i + 1) hc (by omega)) 0 (Nat.zero_le _)
 ·rw [show IntKind.i64.wrap (2 + 1) = 3 by decide]
  exact conB13_run hD

theorem conB12_run (hD : ConD l wa wb wc) : Runs Try.prog ⟨w, H⟩ (conB (cl39 cn cr cp cdl cps css cv p1 p2 p3 p4 pf p6 pw ph q1 q2 q3 q4 qf q6 qw qh r1 r2 r3 r4 rf r6 rw rh fl wa wb wc now clk rt st) l 1 2) (RetS w H (.lb true)) := by
 refine unroll_sound rfl ?_
 apply exec_sound ctPOk 900
 rw [conB_go]
 exact ⟨fun _ => conI12_run hD 0 (Nat.zero_le _), fun h => absurd h (by decide)⟩

theorem conK11_run (hD : ConD l wa wb wc) {i : Nat} (hi : i < (wb.to Wr).length) (next : Runs Try.prog ⟨w, H⟩ (conI (cl39 cn cr cp cdl cps css cv p1 p2 p3 p4 pf p6 pw ph q1 q2 q3 q4 qf q6 qw qh r1 r2 r3 r4 rf r6 rw rh fl wa wb wc now clk rt st) l 1 1 ((i + 1 : Nat) : Int)) (RetS w H (.lb true))) :
  ∀ k : Nat, k ≤ (wb.to Wr).length → Runs Try.prog ⟨w, H⟩ (conK (cl39 cn cr cp cdl cps css cv p1 p2 p3 p4 pf p6 pw ph q1 q2 q3 q4 qf q6 qw qh r1 r2 r3 r4 rf r6 rw rh fl wa wb wc now clk rt st) l 1 1 i k) (RetS w H (.lb true)) := by
 refine runs_loop (fun k : Nat => conK (cl39 cn cr cp cdl cps css cv p1 p2 p3 p4 pf p6 pw ph q1 q2 q3 q4 qf q6 qw qh r1 r2 r3 r4 rf r6 rw rh fl wa wb wc now clk rt st) l 1 1 i k) (fun k => k ≤ (wb.to Wr).length) (fun k => (wb.to Wr).length - k) (fun _ => rfl) fun k hk ih => ?_
 have l1 := D.Is.length (α := Wr) wb
 have m1 := hD.b.2
 have hip := int_cells3 hD.hl hD.ok.plen
 have ia := hip.2.1
 have ib := hip.2.1
 have na : (0 : Int) ≤ 1 ∧ (1 : Int) < ((3 : Nat) : Int) := by omega
 have nb : (0 : Int) ≤ 1 ∧ (1 : Int) < ((3 : Nat) : Int) := by omega
 have i1 := (wr_cell hD.b.1 hi).1
 have i0 : 0 ≤ (i : Int) ∧ (i : Int) < (wb.len : Int) ∧ wb.sz = 4 := ⟨by omega, by omega, hD.b.1.size hi⟩
 apply exec_sound ctPOk 900
 rw [conK11_go]
 have fin : Runs Try.prog ⟨w, H⟩ (conI (cl39 cn cr cp cdl cps css cv p1 p2 p3 p4 pf p6 pw ph q1 q2 q3 q4 qf q6 qw qh r1 r2 r3 r4 rf r6 rw rh fl wa wb wc now clk rt st) l 1 1 (IntKind.i64.wrap ((i : Int) + 1))) (RetS w H (.lb true)) := by
  rw [wrap_succ hi (by omega)]; exact next
 refine treeK na nb ⟨ia.1, ia.2.1⟩ ⟨ib.1, ib.2.1⟩ ⟨i0, i1⟩ fin fun h1 h2 => ?_
 obtain ⟨hkl, h3, h4⟩ := cutK hD.b.1 hD.b.1 hi (fun i k => hD.ok.cut 1 1 i k) ia.2.2 ib.2.2 h1 h2
 refine ⟨h3, ?_, h4⟩
 have := ih (k + 1) hkl (by omega)
 rw [← wrap_succ hkl (by omega)] at this
 exact this

theorem conI11_run (hD : ConD l wa wb wc) : ∀ i : Nat, i ≤ (wb.to Wr).length → Runs Try.prog ⟨w, H⟩ (conI (cl39 cn cr cp cdl cps css cv p1 p2 p3 p4 pf p6 pw ph q1 q2 q3 q4 qf q6 qw qh r1 r2 r3 r4 rf r6 rw rh fl wa wb wc now clk rt st) l 1 1 i) (RetS w H (.lb true)) := by
 refine runs_loop (fun i : Nat => conI (cl39 cn cr cp cdl cps css cv p1 p2 p3 p4 pf p6 pw ph q1 q2 q3 q4 qf q6 qw qh r1 r2 r3 r4 rf r6 rw rh fl wa wb wc now clk rt st) l 1 1 i) (fun i => i ≤ (wb.to Wr).length) (fun i => (wb.to Wr).length - i) (fun _ => rfl) fun i hi ih => ?_
 have l1 := D.Is.length (α := Wr) wb
 have m1 := hD.b.2
 apply exec_sound ctPOk 900
 rw [conI1_go]
 have nn : (0 : Int) ≤ 1 ∧ (1 : Int) < ((3 : Nat) : Int) := by omega
 refine ⟨nn, fun hc => ?_, fun hc => ?_⟩
 ·have hc : i < (wb.to Wr).length := by have := of_decide_eq_true hc; omega
  exact conK11_run hD hc (ih (i + 1) hc (by omega)) 0 (Nat.zero_le _)
 ·rw [show IntKind.i64.wrap (1 + 1) = 2 by decide]
  exact conB12_run hD

theorem conB11_run (hD : ConD l wa wb wc) : Runs Try.prog ⟨w, H⟩ (conB (cl39 cn cr cp cdl cps css cv p1 p2 p3 p4 pf p6 pw ph q1 q2 q3 q4 qf q6 qw qh r1 r2 r3 r4 rf r6 rw rh fl wa wb wc now clk rt st) l 1 1) (RetS w H (.lb true)) := by
 refine unroll_sound rfl ?_
 apply exec_sound ctPOk 900
 rw [conB_go]
 exact ⟨fun _ => conI11_run hD 0 (Nat.zero_le _), fun h => absurd h (by decide)⟩

theorem conK10_run (hD : ConD l wa wb wc) {i : Nat} (hi : i < (wb.to Wr).length) (next : Runs Try.prog ⟨w, H⟩ (conI (cl39 cn cr cp cdl cps css cv p1 p2 p3 p4 pf p6 pw ph q1 q2 q3 q4 qf q6 qw qh r1 r2 r3 r4 rf r6 rw rh fl wa wb wc now clk rt st) l 1 0 ((i + 1 : Nat) : Int)) (RetS w H (.lb true))) :
  ∀ k : Nat, k ≤ (wa.to Wr).length → Runs Try.prog ⟨w, H⟩ (conK (cl39 cn cr cp cdl cps css cv p1 p2 p3 p4 pf p6 pw ph q1 q2 q3 q4 qf q6 qw qh r1 r2 r3 r4 rf r6 rw rh fl wa wb wc now clk rt st) l 1 0 i k) (RetS w H (.lb true)) := by
 refine runs_loop (fun k : Nat => conK (cl39 cn cr cp cdl cps css cv p1 p2 p3 p4 pf p6 pw ph q1 q2 q3 q4 qf q6 qw qh r1 r2 r3 r4 rf r6 rw rh fl wa wb wc now clk rt st) l 1 0 i k) (fun k => k ≤ (wa.to Wr).length) (fun k => (wa.to Wr).length - k) (fun _ => rfl) fun k hk ih => ?_
 have l0 := D.Is.length (α := Wr) wa
 have m0 := hD.a.2
 have l1 := D.Is.length (α := Wr) wb
 have m1 := hD.b.2
 have hip := int_cells3 hD.hl hD.ok.plen
 have ia := hip.2.1
 have ib := hip.1
 have na : (0 : Int) ≤ 1 ∧ (1 : Int) < ((3 : Nat) : Int) := by omega
 have nb : (0 : Int) ≤ 0 ∧ (0 : Int) < ((3 : Nat) : Int) := by omega
 have i1 := (wr_cell hD.b.1 hi).1
 have i0 : 0 ≤ (i : Int) ∧ (i : Int) < (wb.len : Int) ∧ wb.sz = 4 := ⟨by omega, by omega, hD.b.1.size hi⟩
 apply exec_sound ctPOk 900
 rw [conK10_go]
 have fin : Runs Try.prog ⟨w, H⟩ (conI (cl39 cn cr cp cdl cps css cv p1 p2 p3 p4 pf p6 pw ph q1 q2 q3 q4 qf q6 qw qh r1 r2 r3 r4 rf r6 rw rh fl wa wb wc now clk rt st) l 1 0 (IntKind.i64.wrap ((i : Int) + 1))) (RetS w H (.lb true)) := by
  rw [wrap_succ hi (by omega)]; exact next
 refine treeK na nb ⟨ia.1, ia.2.1⟩ ⟨ib.1, ib.2.1⟩ ⟨i0, i1⟩ fin fun h1 h2 => ?_
 obtain ⟨hkl, h3, h4⟩ := cutK hD.b.1 hD.a.1 hi (fun i k => hD.ok.cut 1 0 i k) ia.2.2 ib.2.2 h1 h2
 refine ⟨h3, ?_, h4⟩
 have := ih (k + 1) hkl (by omega)
 rw [← wrap_succ hkl (by omega)] at this
 exact this

theorem conI10_run (hD : ConD l wa wb wc) : ∀ i : Nat, i ≤ (wb.to Wr).length → Runs Try.prog ⟨w, H⟩ (conI (cl39 cn cr cp cdl cps css cv p1 p2 p3 p4 pf p6 pw ph q1 q2 q3 q4 qf q6 qw qh r1 r2 r3 r4 rf r6 rw rh fl wa wb wc now clk rt st) l 1 0 i) (RetS w H (.lb true)) := by
 refine runs_loop (fun i : Nat => conI (cl39 cn cr cp cdl cps css cv p1 p2 p3 p4 pf p6 pw ph q1 q2 q3 q4 qf q6 qw qh r1 r2 r3 r4 rf r6 rw rh fl wa wb wc now clk rt st) l 1 0 i) (fun i => i ≤ (wb.to Wr).length) (fun i => (wb.to Wr).length - i) (fun _ => rfl) fun i hi ih => ?_
 have l0 := D.Is.length (α := Wr) wa
 have m0 := hD.a.2
 have l1 := D.Is.length (α := Wr) wb
 have m1 := hD.b.2
 apply exec_sound ctPOk 900
 rw [conI1_go]
 have nn : (0 : Int) ≤ 1 ∧ (1 : Int) < ((3 : Nat) : Int) := by omega
 refine ⟨nn, fun hc => ?_, fun hc => ?_⟩
 ·have hc : i < (wb.to Wr).length := by have := of_decide_eq_true hc; omega
  exact conK10_run hD hc (ih (i + 1) hc (by omega)) 0 (Nat.zero_le _)
 ·rw [show IntKind.i64.wrap (0 + 1) = 1 by decide]
  exact conB11_run hD

theorem conB10_run (hD : ConD l wa wb wc) : Runs Try.prog ⟨w, H⟩ (conB (cl39 cn cr cp cdl cps css cv p1 p2 p3 p4 pf p6 pw ph q1 q2 q3 q4 qf q6 qw qh r1 r2 r3 r4 rf r6 rw rh fl wa wb wc now clk rt st) l 1 0) (RetS w H (.lb true)) := by
 refine unroll_sound rfl ?_
 apply exec_sound ctPOk 900
 rw [conB_go]
 exact ⟨fun _ => conI10_run hD 0 (Nat.zero_le _), fun h => absurd h (by decide)⟩

theorem conA1_run (hD : ConD l wa wb wc) : Runs Try.prog ⟨w, H⟩ (conA (cl39 cn cr cp cdl cps css cv p1 p2 p3 p4 pf p6 pw ph q1 q2 q3 q4 qf q6 qw qh r1 r2 r3 r4 rf r6 rw rh fl wa wb wc now clk rt st) l 1) (RetS w H (.lb true)) := by
 refine unroll_sound rfl ?_
 apply exec_sound ctPOk 900
 rw [conA_go]
 exact ⟨fun _ => conB10_run hD, fun h => absurd h (by decide)⟩

theorem conB03_run (hD : ConD l wa wb wc) : Runs Try.prog ⟨w, H⟩ (conB (cl39 cn cr cp cdl cps css cv p1 p2 p3 p4 pf p6 pw ph q1 q2 q3 q4 qf q6 qw qh r1 r2 r3 r4 rf r6 rw rh fl wa wb wc now clk rt st) l 0 3) (RetS w H (.lb true)) := by
 refine unroll_sound rfl ?_
 apply exec_sound ctPOk 900
 rw [conB_go]
 refine ⟨fun h => absurd h (by decide), fun _ => ?_⟩
 rw [show IntKind.i64.wrap (0 + 1) = 1 by decide]
 exact conA1_run hD

theorem conK02_run (hD : ConD l wa wb wc) {i : Nat} (hi : i < (wa.to Wr).length) (next : Runs Try.prog ⟨w, H⟩ (conI (cl39 cn cr cp cdl cps css cv p1 p2 p3 p4 pf p6 pw ph q1 q2 q3 q4 qf q6 qw qh r1 r2 r3 r4 rf r6 rw rh fl wa wb wc now clk rt st) l 0 2 ((i + 1 : Nat) : Int)) (RetS w H (.lb true))) :
  ∀ k : Nat, k ≤ (wc.to Wr).length → Runs Try.prog ⟨w, H⟩ (conK (cl39 cn cr cp cdl cps css cv p1 p2 p3 p4 pf p6 pw ph q1 q2 q3 q4 qf q6 qw qh r1 r2 r3 r4 rf r6 rw rh fl wa wb wc now clk rt st) l 0 2 i k) (RetS w H (.lb true)) := by
 refine runs_loop (fun k : Nat => conK (cl39 cn cr cp cdl cps css cv p1 p2 p3 p4 pf p6 pw ph q1 q2 q3 q4 qf q6 qw qh r1 r2 r3 r4 rf r6 rw rh fl wa wb wc now clk rt st) l 0 2 i k) (fun k => k ≤ (wc.to Wr).length) (fun k => (wc.to Wr).length - k) (fun _ => rfl) fun k hk ih => ?_
 have l0 := D.Is.length (α := Wr) wa
 have m0 := hD.a.2
 have l2 := D.Is.length (α := Wr) wc
 have m2 := hD.c.2
 have hip := int_cells3 hD.hl hD.ok.plen
 have ia := hip.1
 have ib := hip.2.2
 have na : (0 : Int) ≤ 0 ∧ (0 : Int) < ((3 : Nat) : Int) := by omega
 have nb : (0 : Int) ≤ 2 ∧ (2 : Int) < ((3 : Nat) : Int) := by omega
 have i1 := (wr_cell hD.a.1 hi).1
 have i0 : 0 ≤ (i : Int) ∧ (i : Int) < (wa.len : Int) ∧ wa.sz = 4 := ⟨by omega, by omega, hD.a.1.size hi⟩
 apply exec_sound ctPOk 900
 rw [conK02_go]
 have fin : Runs Try.prog ⟨w, H⟩ (conI (cl39 cn cr cp cdl cps css cv p1 p2 p3 p4 pf p6 pw ph q1 q2 q3 q4 qf q6 qw qh r1 r2 r3 r4 rf r6 rw rh fl wa wb wc now clk rt st) l 0 2 (IntKind.i64.wrap ((i : Int) + 1))) (RetS w H (.lb true)) := by
  rw [wrap_succ hi (by omega)]; exact next
 refine treeK na nb ⟨ia.1, ia.2.1⟩ ⟨ib.1, ib.2.1⟩ ⟨i0, i1⟩ fin fun h1 h2 => ?_
 obtain ⟨hkl, h3, h4⟩ := cutK hD.a.1 hD.c.1 hi (fun i k => hD.ok.cut 0 2 i k) ia.2.2 ib.2.2 h1 h2
 refine ⟨h3, ?_, h4⟩
 have := ih (k + 1) hkl (by omega)
 rw [← wrap_succ hkl (by omega)] at this
 exact this

theorem conI02_run (hD : ConD l wa wb wc) : ∀ i : Nat, i ≤ (wa.to Wr).length → Runs Try.prog ⟨w, H⟩ (conI (cl39 cn cr cp cdl cps css cv p1 p2 p3 p4 pf p6 pw ph q1 q2 q3 q4 qf q6 qw qh r1 r2 r3 r4 rf r6 rw rh fl wa wb wc now clk rt st) l 0 2 i) (RetS w H (.lb true)) := by
 refine runs_loop (fun i : Nat => conI (cl39 cn cr cp cdl cps css cv p1 p2 p3 p4 pf p6 pw ph q1 q2 q3 q4 qf q6 qw qh r1 r2 r3 r4 rf r6 rw rh fl wa wb wc now clk rt st) l 0 2 i) (fun i => i ≤ (wa.to Wr).length) (fun i => (wa.to Wr).length - i) (fun _ => rfl) fun i hi ih => ?_
 have l0 := D.Is.length (α := Wr) wa
 have m0 := hD.a.2
 have l2 := D.Is.length (α := Wr) wc
 have m2 := hD.c.2
 apply exec_sound ctPOk 900
 rw [conI0_go]
 have nn : (0 : Int) ≤ 0 ∧ (0 : Int) < ((3 : Nat) : Int) := by omega
 refine ⟨nn, fun hc => ?_, fun hc => ?_⟩
 ·have hc : i < (wa.to Wr).length := by have := of_decide_eq_true hc; omega
  exact conK02_run hD hc (ih (i + 1) hc (by omega)) 0 (Nat.zero_le _)
 ·rw [show IntKind.i64.wrap (2 + 1) = 3 by decide]
  exact conB03_run hD

theorem conB02_run (hD : ConD l wa wb wc) : Runs Try.prog ⟨w, H⟩ (conB (cl39 cn cr cp cdl cps css cv p1 p2 p3 p4 pf p6 pw ph q1 q2 q3 q4 qf q6 qw qh r1 r2 r3 r4 rf r6 rw rh fl wa wb wc now clk rt st) l 0 2) (RetS w H (.lb true)) := by
 refine unroll_sound rfl ?_
 apply exec_sound ctPOk 900
 rw [conB_go]
 exact ⟨fun _ => conI02_run hD 0 (Nat.zero_le _), fun h => absurd h (by decide)⟩

theorem conK01_run (hD : ConD l wa wb wc) {i : Nat} (hi : i < (wa.to Wr).length) (next : Runs Try.prog ⟨w, H⟩ (conI (cl39 cn cr cp cdl cps css cv p1 p2 p3 p4 pf p6 pw ph q1 q2 q3 q4 qf q6 qw qh r1 r2 r3 r4 rf r6 rw rh fl wa wb wc now clk rt st) l 0 1 ((i + 1 : Nat) : Int)) (RetS w H (.lb true))) :
  ∀ k : Nat, k ≤ (wb.to Wr).length → Runs Try.prog ⟨w, H⟩ (conK (cl39 cn cr cp cdl cps css cv p1 p2 p3 p4 pf p6 pw ph q1 q2 q3 q4 qf q6 qw qh r1 r2 r3 r4 rf r6 rw rh fl wa wb wc now clk rt st) l 0 1 i k) (RetS w H (.lb true)) := by
 refine runs_loop (fun k : Nat => conK (cl39 cn cr cp cdl cps css cv p1 p2 p3 p4 pf p6 pw ph q1 q2 q3 q4 qf q6 qw qh r1 r2 r3 r4 rf r6 rw rh fl wa wb wc now clk rt st) l 0 1 i k) (fun k => k ≤ (wb.to Wr).length) (fun k => (wb.to Wr).length - k) (fun _ => rfl) fun k hk ih => ?_
 have l0 := D.Is.length (α := Wr) wa
 have m0 := hD.a.2
 have l1 := D.Is.length (α := Wr) wb
 have m1 := hD.b.2
 have hip := int_cells3 hD.hl hD.ok.plen
 have ia := hip.1
 have ib := hip.2.1
 have na : (0 : Int) ≤ 0 ∧ (0 : Int) < ((3 : Nat) : Int) := by omega
 have nb : (0 : Int) ≤ 1 ∧ (1 : Int) < ((3 : Nat) : Int) := by omega
 have i1 := (wr_cell hD.a.1 hi).1
 have i0 : 0 ≤ (i : Int) ∧ (i : Int) < (wa.len : Int) ∧ wa.sz = 4 := ⟨by omega, by omega, hD.a.1.size hi⟩
 apply exec_sound ctPOk 900
 rw [conK01_go]
 have fin : Runs Try.prog ⟨w, H⟩ (conI (cl39 cn cr cp cdl cps css cv p1 p2 p3 p4 pf p6 pw ph q1 q2 q3 q4 qf q6 qw qh r1 r2 r3 r4 rf r6 rw rh fl wa wb wc now clk rt st) l 0 1 (IntKind.i64.wrap ((i : Int) + 1))) (RetS w H (.lb true)) := by
  rw [wrap_succ hi (by omega)]; exact next
 refine treeK na nb ⟨ia.1, ia.2.1⟩ ⟨ib.1, ib.2.1⟩ ⟨i0, i1⟩ fin fun h1 h2 => ?_
 obtain ⟨hkl, h3, h4⟩ := cutK hD.a.1 hD.b.1 hi (fun i k => hD.ok.cut 0 1 i k) ia.2.2 ib.2.2 h1 h2
 refine ⟨h3, ?_, h4⟩
 have := ih (k + 1) hkl (by omega)
 rw [← wrap_succ hkl (by omega)] at this
 exact this

theorem conI01_run (hD : ConD l wa wb wc) : ∀ i : Nat, i ≤ (wa.to Wr).length → Runs Try.prog ⟨w, H⟩ (conI (cl39 cn cr cp cdl cps css cv p1 p2 p3 p4 pf p6 pw ph q1 q2 q3 q4 qf q6 qw qh r1 r2 r3 r4 rf r6 rw rh fl wa wb wc now clk rt st) l 0 1 i) (RetS w H (.lb true)) := by
 refine runs_loop (fun i : Nat => conI (cl39 cn cr cp cdl cps css cv p1 p2 p3 p4 pf p6 pw ph q1 q2 q3 q4 qf q6 qw qh r1 r2 r3 r4 rf r6 rw rh fl wa wb wc now clk rt st) l 0 1 i) (fun i => i ≤ (wa.to Wr).length) (fun i => (wa.to Wr).length - i) (fun _ => rfl) fun i hi ih => ?_
 have l0 := D.Is.length (α := Wr) wa
 have m0 := hD.a.2
 have l1 := D.Is.length (α := Wr) wb
 have m1 := hD.b.2
 apply exec_sound ctPOk 900
 rw [conI0_go]
 have nn : (0 : Int) ≤ 0 ∧ (0 : Int) < ((3 : Nat) : Int) := by omega
 refine ⟨nn, fun hc => ?_, fun hc => ?_⟩
 ·have hc : i < (wa.to Wr).length := by have := of_decide_eq_true hc; omega
  exact conK01_run hD hc (ih (i + 1) hc (by omega)) 0 (Nat.zero_le _)
 ·rw [show IntKind.i64.wrap (1 + 1) = 2 by decide]
  exact conB02_run hD

theorem conB01_run (hD : ConD l wa wb wc) : Runs Try.prog ⟨w, H⟩ (conB (cl39 cn cr cp cdl cps css cv p1 p2 p3 p4 pf p6 pw ph q1 q2 q3 q4 qf q6 qw qh r1 r2 r3 r4 rf r6 rw rh fl wa wb wc now clk rt st) l 0 1) (RetS w H (.lb true)) := by
 refine unroll_sound rfl ?_
 apply exec_sound ctPOk 900
 rw [conB_go]
 exact ⟨fun _ => conI01_run hD 0 (Nat.zero_le _), fun h => absurd h (by decide)⟩

theorem conK00_run (hD : ConD l wa wb wc) {i : Nat} (hi : i < (wa.to Wr).length) (next : Runs Try.prog ⟨w, H⟩ (conI (cl39 cn cr cp cdl cps css cv p1 p2 p3 p4 pf p6 pw ph q1 q2 q3 q4 qf q6 qw qh r1 r2 r3 r4 rf r6 rw rh fl wa wb wc now clk rt st) l 0 0 ((i + 1 : Nat) : Int)) (RetS w H (.lb true))) :
  ∀ k : Nat, k ≤ (wa.to Wr).length → Runs Try.prog ⟨w, H⟩ (conK (cl39 cn cr cp cdl cps css cv p1 p2 p3 p4 pf p6 pw ph q1 q2 q3 q4 qf q6 qw qh r1 r2 r3 r4 rf r6 rw rh fl wa wb wc now clk rt st) l 0 0 i k) (RetS w H (.lb true)) := by
 refine runs_loop (fun k : Nat => conK (cl39 cn cr cp cdl cps css cv p1 p2 p3 p4 pf p6 pw ph q1 q2 q3 q4 qf q6 qw qh r1 r2 r3 r4 rf r6 rw rh fl wa wb wc now clk rt st) l 0 0 i k) (fun k => k ≤ (wa.to Wr).length) (fun k => (wa.to Wr).length - k) (fun _ => rfl) fun k hk ih => ?_
 have l0 := D.Is.length (α := Wr) wa
 have m0 := hD.a.2
 have hip := int_cells3 hD.hl hD.ok.plen
 have ia := hip.1
 have ib := hip.1
 have na : (0 : Int) ≤ 0 ∧ (0 : Int) < ((3 : Nat) : Int) := by omega
 have nb : (0 : Int) ≤ 0 ∧ (0 : Int) < ((3 : Nat) : Int) := by omega
 have i1 := (wr_cell hD.a.1 hi).1
 have i0 : 0 ≤ (i : Int) ∧ (i : Int) < (wa.len : Int) ∧ wa.sz = 4 := ⟨by omega, by omega, hD.a.1.size hi⟩
 apply exec_sound ctPOk 900
 rw [conK00_go]
 have fin : Runs Try.prog ⟨w, H⟩ (conI (cl39 cn cr cp cdl cps css cv p1 p2 p3 p4 pf p6 pw ph q1 q2 q3 q4 qf q6 qw qh r1 r2 r3 r4 rf r6 rw rh fl wa wb wc now clk rt st) l 0 0 (IntKind.i64.wrap ((i : Int) + 1))) (RetS w H (.lb true)) := by
  rw [wrap_succ hi (by omega)]; exact next
 refine treeK na nb ⟨ia.1, ia.2.1⟩ ⟨ib.1, ib.2.1⟩ ⟨i0, i1⟩ fin fun h1 h2 => ?_
 obtain ⟨hkl, h3, h4⟩ := cutK hD.a.1 hD.a.1 hi (fun i k => hD.ok.cut 0 0 i k) ia.2.2 ib.2.2 h1 h2
 refine ⟨h3, ?_, h4⟩
 have := ih (k + 1) hkl (by omega)
 rw [← wrap_succ hkl (by omega)] at this
 exact this

theorem conI00_run (hD : ConD l wa wb wc) : ∀ i : Nat, i ≤ (wa.to Wr).length → Runs Try.prog ⟨w, H⟩ (conI (cl39 cn cr cp cdl cps css cv p1 p2 p3 p4 pf p6 pw ph q1 q2 q3 q4 qf q6 qw qh r1 r2 r3 r4 rf r6 rw rh fl wa wb wc now clk rt st) l 0 0 i) (RetS w H (.lb true)) := by
 refine runs_loop (fun i : Nat => conI (cl39 cn cr cp cdl cps css cv p1 p2 p3 p4 pf p6 pw ph q1 q2 q3 q4 qf q6 qw qh r1 r2 r3 r4 rf r6 rw rh fl wa wb wc now clk rt st) l 0 0 i) (fun i => i ≤ (wa.to Wr).length) (fun i => (wa.to Wr).length - i) (fun _ => rfl) fun i hi ih => ?_
 have l0 := D.Is.length (α := Wr) wa
 have m0 := hD.a.2
 apply exec_sound ctPOk 900
 rw [conI0_go]
 have nn : (0 : Int) ≤ 0 ∧ (0 : Int) < ((3 : Nat) : Int) := by omega
 refine ⟨nn, fun hc => ?_, fun hc => ?_⟩
 ·have hc : i < (wa.to Wr).length := by have := of_decide_eq_true hc; omega
  exact conK00_run hD hc (ih (i + 1) hc (by omega)) 0 (Nat.zero_le _)
 ·rw [show IntKind.i64.wrap (0 + 1) = 1 by decide]
  exact conB01_run hD

theorem conB00_run (hD : ConD l wa wb wc) : Runs Try.prog ⟨w, H⟩ (conB (cl39 cn cr cp cdl cps css cv p1 p2 p3 p4 pf p6 pw ph q1 q2 q3 q4 qf q6 qw qh r1 r2 r3 r4 rf r6 rw rh fl wa wb wc now clk rt st) l 0 0) (RetS w H (.lb true)) := by
 refine unroll_sound rfl ?_
 apply exec_sound ctPOk 900
 rw [conB_go]
 exact ⟨fun _ => conI00_run hD 0 (Nat.zero_le _), fun h => absurd h (by decide)⟩

theorem conA0_run (hD : ConD l wa wb wc) : Runs Try.prog ⟨w, H⟩ (conA (cl39 cn cr cp cdl cps css cv p1 p2 p3 p4 pf p6 pw ph q1 q2 q3 q4 qf q6 qw qh r1 r2 r3 r4 rf r6 rw rh fl wa wb wc now clk rt st) l 0) (RetS w H (.lb true)) := by
 refine unroll_sound rfl ?_
 apply exec_sound ctPOk 900
 rw [conA_go]
 exact ⟨fun _ => conB00_run hD, fun h => absurd h (by decide)⟩

theorem con_ent (hD : ConD l wa wb wc) (e3 : (l.len : Int) = 3) : Runs Try.prog ⟨w, H⟩ (entry Try.prog 46 [.agg (cl39 cn cr cp cdl cps css cv p1 p2 p3 p4 pf p6 pw ph q1 q2 q3 q4 qf q6 qw qh r1 r2 r3 r4 rf r6 rw rh fl wa wb wc now clk rt st), .dat l]) (RetS w H (.lb true)) := by
 apply exec_sound ctPOk 900
 rw [con_in]
 refine ⟨fun h => ?_, fun _ => conA0_run hD⟩
 rw [e3] at h
 exact absurd h (by decide)
end

theorem lawCons : Law Try.prog 46 (((rdCells grK).two rdD).sp spCons) := by
 refine law_in _ (by kernel_rfl) fun H w ⟨⟨cs, hsh⟩, l⟩ hok => ?_
 obtain ⟨cn, cr, cp, cdl, cps, css, cv, p1, p2, p3, p4, pf, p6, pw, ph, q1, q2, q3, q4, qf, q6, qw, qh, r1, r2, r3, r4, rf, r6, rw, rh, fl, wa, wb, wc, now, clk, rt, st, rfl⟩ := gr_shape hsh
 intro hp
 obtain ⟨h1, h2, h3⟩ := hp _ (List.mem_singleton.2 rfl)
 have h1 : GrRight (cv9 cn cr cp cdl cps css cv p1 p2 p3 p4 pf p6 pw ph q1 q2 q3 q4 qf q6 qw qh r1 r2 r3 r4 rf r6 rw rh fl wa wb wc now clk rt st) := h1
 have h3 : ConsOk (grOf (cv9 cn cr cp cdl cps css cv p1 p2 p3 p4 pf p6 pw ph q1 q2 q3 q4 qf q6 qw qh r1 r2 r3 r4 rf r6 rw rh fl wa wb wc now clk rt st)) (l.to Int) := h3
 have h2 : l.Is Int := h2
 rw [grRight_eq] at h1
 rw [grOf_eq] at h3
 obtain ⟨_, _, _, _, _, ha, hb, hc⟩ := h1
 have hD : ConD l wa wb wc := ⟨h2, ha, hb, hc, ⟨h3.plen, h3.cut, h3.le⟩⟩
 have l3 := D.Is.length (α := Int) l
 have e3 : (l.len : Int) = 3 := by rw [l3, h3.plen]; rfl
 exact con_ent hD e3
theorem ctCOk : Ctrs.Ok Try.prog ctC := by
 intro x hx
 rcases List.mem_cons.1 hx with rfl | hx
 ·exact ctrOf_ok lawCons
 ·exact ctPOk _ hx
end Go.Proofs.Ytoechplbhbalaaa
end
section
open Go Go.Proofs Sx
namespace Go.Proofs.Ytoechplbhbalaaa
set_option maxRecDepth 100000
set_option maxHeartbeats 0
section
variable (cn cr cp cdl : Int) (cps css : D) (cv : Bool) (p1 p2 p3 p4 : Int) (pf : Bool) (p6 : Int) (pw ph : D) (q1 q2 q3 q4 : Int) (qf : Bool) (q6 : Int) (qw qh : D) (r1 r2 r3 r4 : Int) (rf : Bool) (r6 : Int) (rw rh : D) (fl wa wb wc : D) (now clk : Int) (rt : Bool) (st : Int) (l : D) (i : Int)
theorem p8_in : exec Try.prog ctC 900 (entry Try.prog 8 [.dat l]) =
 Tree.br (decide ((↑(D.len l) : Int) > 60)) (.ret (.lb true))
 (.all fun hs =>
 .leaf
 (Conf.mk
 (SFrm.mk 8 none none
 [Item.inLoop (cAt Try.prog 8 [1, 1, 1, 0, 1, 0, 0]), Item.inBlock 0, Item.code (cAt Try.prog 8 [1, 1, 1, 1])]
 (mkJ 0 [(0, .dat l), (3, .ptr 0 0), (4, .int .i64 0)] 0 46))
 []
 [(0,
 OBlk.cells 97
 [.int .i64 3, .int .i64 0, .int .i64 0, .int .i64 0,
 .dat (D.like (hs 0 0) (List.replicate 3 (0 : Int))), .dat (D.like (hs 0 1) (List.replicate 3 false)),
 .bool false, .int .i64 0, .int .i64 0, .int .i64 0, .int .i64 0,
 .lb false, .int .i64 0, .nils, .nils, .int .i64 0, .int .i64 0,
 .int .i64 0, .int .i64 0, .lb false, .int .i64 0, .nils, .nils,
 .int .i64 0, .int .i64 0, .int .i64 0, .int .i64 0, .lb false,
 .int .i64 0, .nils, .nils, .nils, .nils, .nils, .nils, .int .i64 0,
 .int .i64 0, .bool true, .int .i64 0])])) := by kernel_rfl

theorem p8_go : 
 let z2 : List CV := [.int cn, .int cr, .int cp, .int cdl, .dat cps, .dat css, .bool cv, .int p1, .int p2, .int p3, .int p4, .bool pf, .int p6, .dat pw, .dat ph, .int q1, .int q2, .int q3, .int q4, .bool qf, .int q6, .dat qw, .dat qh, .int r1, .int r2, .int r3, .int r4, .bool rf, .int r6, .dat rw, .dat rh, .dat fl, .dat wa, .dat wb, .dat wc, .int now, .int clk, .bool rt, .int st]
 let z1 := (Sx.stepG (grOf z2) (D.getInt l (Int.toNat i) 0) (nodeOf (D.getInt l (Int.toNat i) 1)) (D.getInt l (Int.toNat i) 1) (D.getInt l (Int.toNat i) 2))
 let z3 := (SFrm.mk 8 none none [Item.inLoop (cAt Try.prog 8 [1, 1, 1, 0, 1, 0, 0]), Item.inBlock 0, Item.code (cAt Try.prog 8 [1, 1, 1, 1])] (mkJ 0 [(0, .dat l), (3, .ptr 0 0), (4, .int .i64 (IntKind.wrap .i64 (i + 1)))] 0 46))
 exec Try.prog ctC 900 (unroll (p8L l (cl9 cn cr cp cdl cps css cv p1 p2 p3 p4 pf p6 pw ph q1 q2 q3 q4 qf q6 qw qh r1 r2 r3 r4 rf r6 rw rh fl wa wb wc now clk rt st) i)) =
 Tree.br (decide (i < (↑(D.len l) : Int))) (.br rt (.all fun hs => .need (0 ≤ i ∧ i < (↑(D.len l) : Int) ∧ D.sz l = 3) (.need (D.HasCells l (Int.toNat i) 0 [FT.int .u8, FT.int .u8, FT.int .u8]) (.need (GrRight z2 ∧
 ((U8 (D.getInt l (Int.toNat i) 0) ∧ U8 (D.getInt l (Int.toNat i) 1) ∧ U8 (D.getInt l (Int.toNat i) 2)) ∧ List.length (Gr.flight (grOf z2)) ≤ 999000) ∧ Gr.right z1 = true) (.need (D.Is Int (D.like (hs 5 0)
 (Co.positions (Gr.c z1))) ∧ D.Is Bool (D.like (hs 5 1) (Co.seen (Gr.c z1)))) (.all fun hs_1 => .br (Prod.snd (resultCo (CoD.co (CoD.mk (Co.nodes (Gr.c z1)) (Co.round (Gr.c z1)) (Co.phase (Gr.c z1)) (Co.deadline
 (Gr.c z1)) (D.like (hs 5 0) (Co.positions (Gr.c z1))) (D.like (hs 5 1) (Co.seen (Gr.c z1))) (Co.valid (Gr.c z1)))))) (.need (GrRight [.int (Co.nodes (Gr.c z1)), .int (Co.round (Gr.c z1)), .int (Co.phase
 (Gr.c z1)), .int (Co.deadline (Gr.c z1)), .dat (D.like (hs 5 0) (Co.positions (Gr.c z1))), .dat (D.like (hs 5 1) (Co.seen (Gr.c z1))), .bool (Co.valid (Gr.c z1)), .int (Mb.round (Gr.node z1 (Fin.ofNat 3 0))), .int
 (Mb.position (Gr.node z1 (Fin.ofNat 3 0))), .int (Mb.thawed (Gr.node z1 (Fin.ofNat 3 0))), .int (Mb.issued (Gr.node z1 (Fin.ofNat 3 0))), .bool (Mb.frozen (Gr.node z1 (Fin.ofNat 3 0))), .int (Mb.upto (Gr.node z1
 (Fin.ofNat 3 0))), .dat (D.like (hs 5 2) (Mb.waiting (Gr.node z1 (Fin.ofNat 3 0)))), .dat (D.like (hs 5 3) (Mb.held (Gr.node z1 (Fin.ofNat 3 0)))), .int (Mb.round (Gr.node z1 (Fin.ofNat 3 1))), .int (Mb.position
 (Gr.node z1 (Fin.ofNat 3 1))), .int (Mb.thawed (Gr.node z1 (Fin.ofNat 3 1))), .int (Mb.issued (Gr.node z1 (Fin.ofNat 3 1))), .bool (Mb.frozen (Gr.node z1 (Fin.ofNat 3 1))), .int (Mb.upto (Gr.node z1 (Fin.ofNat 3 1))), .dat
 (D.like (hs 5 4) (Mb.waiting (Gr.node z1 (Fin.ofNat 3 1)))), .dat (D.like (hs 5 5) (Mb.held (Gr.node z1 (Fin.ofNat 3 1)))), .int (Mb.round (Gr.node z1 (Fin.ofNat 3 2))), .int (Mb.position (Gr.node z1 (Fin.ofNat 3 2))), .int
 (Mb.thawed (Gr.node z1 (Fin.ofNat 3 2))), .int (Mb.issued (Gr.node z1 (Fin.ofNat 3 2))), .bool (Mb.frozen (Gr.node z1 (Fin.ofNat 3 2))), .int (Mb.upto (Gr.node z1 (Fin.ofNat 3 2))), .dat (D.like (hs 5 6)
 (Mb.waiting (Gr.node z1 (Fin.ofNat 3 2)))), .dat (D.like (hs 5 7) (Mb.held (Gr.node z1 (Fin.ofNat 3 2)))), .dat (D.like (hs 5 8) (Gr.flight z1)), .dat (D.like (hs 5 9) (Gr.wr z1 (Fin.ofNat 3 0))), .dat
 (D.like (hs 5 10) (Gr.wr z1 (Fin.ofNat 3 1))), .dat (D.like (hs 5 11) (Gr.wr z1 (Fin.ofNat 3 2))), .int (Gr.now z1), .int (Gr.clock z1), .bool (Gr.right z1), .int (Gr.started z1)] ∧ D.Is Int (D.like (hs_1 0 0)
 (Prod.fst (resultCo (CoD.co (CoD.mk (Co.nodes (Gr.c z1)) (Co.round (Gr.c z1)) (Co.phase (Gr.c z1)) (Co.deadline (Gr.c z1)) (D.like (hs 5 0) (Co.positions (Gr.c z1))) (D.like (hs 5 1) (Co.seen (Gr.c z1)))
 (Co.valid (Gr.c z1))))))) ∧ ConsOk (grOf [.int (Co.nodes (Gr.c z1)), .int (Co.round (Gr.c z1)), .int (Co.phase (Gr.c z1)), .int (Co.deadline (Gr.c z1)), .dat (D.like (hs 5 0) (Co.positions (Gr.c z1))), .dat
 (D.like (hs 5 1) (Co.seen (Gr.c z1))), .bool (Co.valid (Gr.c z1)), .int (Mb.round (Gr.node z1 (Fin.ofNat 3 0))), .int (Mb.position (Gr.node z1 (Fin.ofNat 3 0))), .int (Mb.thawed (Gr.node z1 (Fin.ofNat 3 0))), .int
 (Mb.issued (Gr.node z1 (Fin.ofNat 3 0))), .bool (Mb.frozen (Gr.node z1 (Fin.ofNat 3 0))), .int (Mb.upto (Gr.node z1 (Fin.ofNat 3 0))), .dat (D.like (hs 5 2) (Mb.waiting (Gr.node z1 (Fin.ofNat 3 0)))), .dat
 (D.like (hs 5 3) (Mb.held (Gr.node z1 (Fin.ofNat 3 0)))), .int (Mb.round (Gr.node z1 (Fin.ofNat 3 1))), .int (Mb.position (Gr.node z1 (Fin.ofNat 3 1))), .int (Mb.thawed (Gr.node z1 (Fin.ofNat 3 1))), .int
 (Mb.issued (Gr.node z1 (Fin.ofNat 3 1))), .bool (Mb.frozen (Gr.node z1 (Fin.ofNat 3 1))), .int (Mb.upto (Gr.node z1 (Fin.ofNat 3 1))), .dat (D.like (hs 5 4) (Mb.waiting (Gr.node z1 (Fin.ofNat 3 1)))), .dat
 (D.like (hs 5 5) (Mb.held (Gr.node z1 (Fin.ofNat 3 1)))), .int (Mb.round (Gr.node z1 (Fin.ofNat 3 2))), .int (Mb.position (Gr.node z1 (Fin.ofNat 3 2))), .int (Mb.thawed (Gr.node z1 (Fin.ofNat 3 2))), .int
 (Mb.issued (Gr.node z1 (Fin.ofNat 3 2))), .bool (Mb.frozen (Gr.node z1 (Fin.ofNat 3 2))), .int (Mb.upto (Gr.node z1 (Fin.ofNat 3 2))), .dat (D.like (hs 5 6) (Mb.waiting (Gr.node z1 (Fin.ofNat 3 2)))), .dat
 (D.like (hs 5 7) (Mb.held (Gr.node z1 (Fin.ofNat 3 2)))), .dat (D.like (hs 5 8) (Gr.flight z1)), .dat (D.like (hs 5 9) (Gr.wr z1 (Fin.ofNat 3 0))), .dat (D.like (hs 5 10) (Gr.wr z1 (Fin.ofNat 3 1))), .dat
 (D.like (hs 5 11) (Gr.wr z1 (Fin.ofNat 3 2))), .int (Gr.now z1), .int (Gr.clock z1), .bool (Gr.right z1), .int (Gr.started z1)]) (D.to Int (D.like (hs_1 0 0) (Prod.fst (resultCo (CoD.co (CoD.mk (Co.nodes
 (Gr.c z1)) (Co.round (Gr.c z1)) (Co.phase (Gr.c z1)) (Co.deadline (Gr.c z1)) (D.like (hs 5 0) (Co.positions (Gr.c z1))) (D.like (hs 5 1) (Co.seen (Gr.c z1))) (Co.valid (Gr.c z1))))))))) (.leaf (Conf.mk z3 [] [(0, OBlk.cells 97 [.int .i64
 (Co.nodes (Gr.c z1)), .int .i64 (Co.round (Gr.c z1)), .int .i64 (Co.phase (Gr.c z1)), .int .i64 (Co.deadline (Gr.c z1)), .dat (D.like (hs 5 0) (Co.positions (Gr.c z1))), .dat (D.like (hs 5 1) (Co.seen
 (Gr.c z1))), .bool (Co.valid (Gr.c z1)), .int .i64 (Mb.round (Gr.node z1 (Fin.ofNat 3 0))), .int .i64 (Mb.position (Gr.node z1 (Fin.ofNat 3 0))), .int .i64 (Mb.thawed (Gr.node z1 (Fin.ofNat 3 0))), .int .i64
 (Mb.issued (Gr.node z1 (Fin.ofNat 3 0))), .bool (Mb.frozen (Gr.node z1 (Fin.ofNat 3 0))), .int .i64 (Mb.upto (Gr.node z1 (Fin.ofNat 3 0))), .dat (D.like (hs 5 2) (Mb.waiting (Gr.node z1 (Fin.ofNat 3 0)))), .dat
 (D.like (hs 5 3) (Mb.held (Gr.node z1 (Fin.ofNat 3 0)))), .int .i64 (Mb.round (Gr.node z1 (Fin.ofNat 3 1))), .int .i64 (Mb.position (Gr.node z1 (Fin.ofNat 3 1))), .int .i64 (Mb.thawed (Gr.node z1 (Fin.ofNat 3 1))), .int .i64
 (Mb.issued (Gr.node z1 (Fin.ofNat 3 1))), .bool (Mb.frozen (Gr.node z1 (Fin.ofNat 3 1))), .int .i64 (Mb.upto (Gr.node z1 (Fin.ofNat 3 1))), .dat (D.like (hs 5 4) (Mb.waiting (Gr.node z1 (Fin.ofNat 3 1)))), .dat
 (D.like (hs 5 5) (Mb.held (Gr.node z1 (Fin.ofNat 3 1)))), .int .i64 (Mb.round (Gr.node z1 (Fin.ofNat 3 2))), .int .i64 (Mb.position (Gr.node z1 (Fin.ofNat 3 2))), .int .i64 (Mb.thawed (Gr.node z1 (Fin.ofNat 3 2))), .int .i64
 (Mb.issued (Gr.node z1 (Fin.ofNat 3 2))), .bool (Mb.frozen (Gr.node z1 (Fin.ofNat 3 2))), .int .i64 (Mb.upto (Gr.node z1 (Fin.ofNat 3 2))), .dat (D.like (hs 5 6) (Mb.waiting (Gr.node z1 (Fin.ofNat 3 2)))), .dat
 (D.like (hs 5 7) (Mb.held (Gr.node z1 (Fin.ofNat 3 2)))), .dat (D.like (hs 5 8) (Gr.flight z1)), .dat (D.like (hs 5 9) (Gr.wr z1 (Fin.ofNat 3 0))), .dat (D.like (hs 5 10) (Gr.wr z1 (Fin.ofNat 3 1))), .dat
 (D.like (hs 5 11) (Gr.wr z1 (Fin.ofNat 3 2))), .int .i64 (Gr.now z1), .int .i64 (Gr.clock z1), .bool (Gr.right z1), .int .i64 (Gr.started z1)])]))) (.leaf (Conf.mk z3 [] [(0, OBlk.cells 97 [.int .i64 (Co.nodes
 (Gr.c z1)), .int .i64 (Co.round (Gr.c z1)), .int .i64 (Co.phase (Gr.c z1)), .int .i64 (Co.deadline (Gr.c z1)), .dat (D.like (hs 5 0) (Co.positions (Gr.c z1))), .dat (D.like (hs 5 1) (Co.seen (Gr.c z1))), .bool
 (Co.valid (Gr.c z1)), .int .i64 (Mb.round (Gr.node z1 (Fin.ofNat 3 0))), .int .i64 (Mb.position (Gr.node z1 (Fin.ofNat 3 0))), .int .i64 (Mb.thawed (Gr.node z1 (Fin.ofNat 3 0))), .int .i64 (Mb.issued (Gr.node z1
 (Fin.ofNat 3 0))), .bool (Mb.frozen (Gr.node z1 (Fin.ofNat 3 0))), .int .i64 (Mb.upto (Gr.node z1 (Fin.ofNat 3 0))), .dat (D.like (hs 5 2) (Mb.waiting (Gr.node z1 (Fin.ofNat 3 0)))), .dat (D.like (hs 5 3)
 (Mb.held (Gr.node z1 (Fin.ofNat 3 0)))), .int .i64 (Mb.round (Gr.node z1 (Fin.ofNat 3 1))), .int .i64 (Mb.position (Gr.node z1 (Fin.ofNat 3 1))), .int .i64 (Mb.thawed (Gr.node z1 (Fin.ofNat 3 1))), .int .i64
 (Mb.issued (Gr.node z1 (Fin.ofNat 3 1))), .bool (Mb.frozen (Gr.node z1 (Fin.ofNat 3 1))), .int .i64 (Mb.upto (Gr.node z1 (Fin.ofNat 3 1))), .dat (D.like (hs 5 4) (Mb.waiting (Gr.node z1 (Fin.ofNat 3 1)))), .dat
 (D.like (hs 5 5) (Mb.held (Gr.node z1 (Fin.ofNat 3 1)))), .int .i64 (Mb.round (Gr.node z1 (Fin.ofNat 3 2))), .int .i64 (Mb.position (Gr.node z1 (Fin.ofNat 3 2))), .int .i64 (Mb.thawed (Gr.node z1 (Fin.ofNat 3 2))), .int .i64
 (Mb.issued (Gr.node z1 (Fin.ofNat 3 2))), .bool (Mb.frozen (Gr.node z1 (Fin.ofNat 3 2))), .int .i64 (Mb.upto (Gr.node z1 (Fin.ofNat 3 2))), .dat (D.like (hs 5 6) (Mb.waiting (Gr.node z1 (Fin.ofNat 3 2)))), .dat
 (D.like (hs 5 7) (Mb.held (Gr.node z1 (Fin.ofNat 3 2)))), .dat (D.like (hs 5 8) (Gr.flight z1)), .dat (D.like (hs 5 9) (Gr.wr z1 (Fin.ofNat 3 0))), .dat (D.like (hs 5 10) (Gr.wr z1 (Fin.ofNat 3 1))), .dat
 (D.like (hs 5 11) (Gr.wr z1 (Fin.ofNat 3 2))), .int .i64 (Gr.now z1), .int .i64 (Gr.clock z1), .bool (Gr.right z1), .int .i64 (Gr.started z1)])]))))))) (.ret (.bool rt))) (.ret (.bool rt)) := by
 intros; kernel_rfl

end
end Go.Proofs.Ytoechplbhbalaaa
end
section
open Go Go.Proofs Sx
namespace Sx
theorem result_yes {x : CoD} (h : (resultCo x.co).2 = true) : x.co.valid = true ∧ (resultCo x.co).1 = x.co.positions := by
 unfold resultCo at h ⊢
 split at h
 ·cases h
 ·rename_i hn
  rw [if_neg hn]
  refine ⟨?_, rfl⟩
  cases hv : x.co.valid with
  | true => rfl
  | false => exact absurd (Or.inr hv) hn
end Sx
namespace Go.Proofs.Ytoechplbhbalaaa
set_option maxRecDepth 100000
set_option maxHeartbeats 0

theorem p8_step {w : World} {H : HV} {cn cr cp cdl : Int} {cps css : D} {cv : Bool} {p1 p2 p3 p4 : Int} {pf : Bool} {p6 : Int} {pw ph : D} {q1 q2 q3 q4 : Int} {qf : Bool} {q6 : Int} {qw qh : D} {r1 r2 r3 r4 : Int} {rf : Bool} {r6 : Int} {rw rh : D} {fl wa wb wc : D} {now clk : Int} {rt : Bool} {st : Int} {l : D} (hl : EvRows l) (hlen : l.len ≤ 60) {i : Nat} (hi : i ≤ l.len) (hR : GrRight (cv9 cn cr cp cdl cps css cv p1 p2 p3 p4 pf p6 pw ph q1 q2 q3 q4 qf q6 qw qh r1 r2 r3 r4 rf r6 rw rh fl wa wb wc now clk rt st)) (hp : PlayOk (grOf (cv9 cn cr cp cdl cps css cv p1 p2 p3 p4 pf p6 pw ph q1 q2 q3 q4 qf q6 qw qh r1 r2 r3 r4 rf r6 rw rh fl wa wb wc now clk rt st)) i) (hC : ∃ T, CutOk (grOf (cv9 cn cr cp cdl cps css cv p1 p2 p3 p4 pf p6 pw ph q1 q2 q3 q4 qf q6 qw qh r1 r2 r3 r4 rf r6 rw rh fl wa wb wc now clk rt st)) T)
  (ih : ∀ cs : List CV, ShapeC grK cs → GrRight cs → PlayOk (grOf cs) (i + 1) → (∃ T, CutOk (grOf cs) T) → i + 1 ≤ l.len → Runs Try.prog ⟨w, H⟩ (p8L l (cs.map CV.sv) ((i + 1 : Nat) : Int)) (RetS w H (.lb true))) :
  Runs Try.prog ⟨w, H⟩ (unroll (p8L l (cl9 cn cr cp cdl cps css cv p1 p2 p3 p4 pf p6 pw ph q1 q2 q3 q4 qf q6 qw qh r1 r2 r3 r4 rf r6 rw rh fl wa wb wc now clk rt st) i)) (RetS w H (.lb true)) := by
 have hf := hp.fl
 rw [grOf_eq] at hf
 simp only at hf
 have hrt := hp.ok.right
 rw [grOf_eq] at hrt
 simp only at hrt
 apply exec_sound ctCOk 900
 rw [p8_go]
 refine ⟨fun hc => ⟨fun _ hs => ?_, fun h => absurd (hrt.symm.trans h) (by decide)⟩, fun _ => ret_sure hrt⟩
 have hc : i < l.len := by have := of_decide_eq_true hc; omega
 obtain ⟨a1, a2, a3, a4, a5⟩ := hl.at hc
 have hs2 := hp.step (by omega) (nodeOf (l.getInt (Int.toNat (i : Int)) 1)) a3 a4 a5
 obtain ⟨T, hC⟩ := hC
 have hC2 : ∃ T, CutOk (Sx.stepG (grOf (cv9 cn cr cp cdl cps css cv p1 p2 p3 p4 pf p6 pw ph q1 q2 q3 q4 qf q6 qw qh r1 r2 r3 r4 rf r6 rw rh fl wa wb wc now clk rt st)) (l.getInt (Int.toNat (i : Int)) 0) (nodeOf (l.getInt (Int.toNat (i : Int)) 1)) (l.getInt (Int.toNat (i : Int)) 1) (l.getInt (Int.toNat (i : Int)) 2)) T := hC.step hp.ok (by omega) (k := l.getInt (Int.toNat (i : Int)) 0) (n := l.getInt (Int.toNat (i : Int)) 1) (nodeOf (l.getInt (Int.toNat (i : Int)) 1)) a5 (by have := hp.now; omega)
 refine ⟨a1, a2, ⟨hR, ⟨⟨a3, a4, a5⟩, by rw [grOf_eq]; simp only; omega⟩, hs2.ok.right⟩, ⟨D.like_is _ _, D.like_is _ _⟩, fun hs1 => ?_⟩
 obtain ⟨b1, b2⟩ := hs2.ok.bounds (by omega)
 have hgr := grRight_cv _ (hs 5) b1 (by omega)
 have nxt := ih _ (cv_shape _ (hs 5)) hgr (by rw [grOf_cv]; exact hs2) (by rw [grOf_cv]; exact hC2) hc
 rw [← wrap_succ hc (by omega)] at nxt
 refine ⟨fun hv => ?_, fun _ => nxt⟩
 obtain ⟨v1, v2⟩ := result_yes hv
 refine ⟨⟨hgr, D.like_is _ _, ?_⟩, nxt⟩
 obtain ⟨T2, hC2⟩ := hC2
 have hcons := hC2.cons hs2.ok v1
 rw [D.like_to, v2]
 have e := grOf_cv (Sx.stepG (grOf (cv9 cn cr cp cdl cps css cv p1 p2 p3 p4 pf p6 pw ph q1 q2 q3 q4 qf q6 qw qh r1 r2 r3 r4 rf r6 rw rh fl wa wb wc now clk rt st)) (l.getInt (Int.toNat (i : Int)) 0) (nodeOf (l.getInt (Int.toNat (i : Int)) 1)) (l.getInt (Int.toNat (i : Int)) 1) (l.getInt (Int.toNat (i : Int)) 2)) (hs 5)
 have e2 : ∀ (d s : D) (x : Co), d.to Int = x.positions → (CoD.co (CoD.mk x.nodes x.round x.phase x.deadline d s x.valid)).positions = x.positions := fun d s x h => h
 rw [e2 _ _ _ (D.like_to _ _)]
 exact (show ConsOk (grOf (cvOf (hs 5) 0 (Sx.stepG (grOf (cv9 cn cr cp cdl cps css cv p1 p2 p3 p4 pf p6 pw ph q1 q2 q3 q4 qf q6 qw qh r1 r2 r3 r4 rf r6 rw rh fl wa wb wc now clk rt st)) (l.getInt (Int.toNat (i : Int)) 0) (nodeOf (l.getInt (Int.toNat (i : Int)) 1)) (l.getInt (Int.toNat (i : Int)) 1) (l.getInt (Int.toNat (i : Int)) 2)).cls)) _ from by rw [e]; exact hcons)

theorem lawConsist : Law Try.prog 8 (rdD.one.sp spEv) := by
 refine law_in _ (by kernel_rfl) fun H w l hok hp => ?_
 have hl : EvRows l := hp _ (List.mem_singleton.2 rfl)
 apply exec_sound ctCOk 900
 rw [show rdD.one.canon l = [.dat l] from rfl, p8_in]
 refine ⟨fun _ => ret_lbt, fun hc hs => ?_⟩
 have hlen : l.len ≤ 60 := by have := of_decide_eq_false hc; omega
 refine cellsTo (cs' := List.map CV.sv (CV.int 3 :: CV.int 0 :: CV.int 0 :: CV.int 0 :: CV.dat ((hs 0 0).like ([0, 0, 0] : List Int)) :: CV.dat ((hs 0 1).like [false, false, false]) :: CV.bool false :: CV.int 0 :: CV.int 0 :: CV.int 0 :: CV.int 0 :: CV.bool false :: CV.int 0 :: CV.dat (D.slc none 0 []) :: CV.dat (D.slc none 0 []) :: CV.int 0 :: CV.int 0 :: CV.int 0 :: CV.int 0 :: CV.bool false :: CV.int 0 :: CV.dat (D.slc none 0 []) :: CV.dat (D.slc none 0 []) :: CV.int 0 :: CV.int 0 :: CV.int 0 :: CV.int 0 :: CV.bool false :: CV.int 0 :: CV.dat (D.slc none 0 []) :: CV.dat (D.slc none 0 []) :: CV.dat (D.slc none 0 []) :: CV.dat (D.slc none 0 []) :: CV.dat (D.slc none 0 []) :: CV.dat (D.slc none 0 []) :: CV.int 0 :: CV.int 0 :: CV.bool true :: CV.int 0 :: [])) (fun E => rfl) (fun H ho => ?_) ?_
 ·have h0 : D.Ok H (D.slc none 0 []) := .nil 0
  have hsl : (D.slc none 0 []).IsSlc := ⟨_, _, _, rfl⟩
  have hnil : SV.Ok H (.dat (D.slc none 0 [])) := ⟨h0, hsl⟩
  exact ⟨trivial, trivial, trivial, trivial, ho.2.2.2.2.1, ho.2.2.2.2.2.1, trivial, trivial, trivial, trivial, trivial, trivial, trivial, hnil, hnil, trivial, trivial, trivial, trivial, trivial, trivial, hnil, hnil, trivial, trivial, trivial, trivial, trivial, trivial, hnil, hnil, hnil, hnil, hnil, hnil, trivial, trivial, trivial, trivial, trivial⟩
 ·refine runs_loop (σ := { cs : List CV // ShapeC grK cs } × Nat) (fun q => p8L l (q.1.1.map CV.sv) q.2) (fun q => q.2 ≤ l.len ∧ GrRight q.1.1 ∧ PlayOk (grOf q.1.1) q.2 ∧ ∃ T, CutOk (grOf q.1.1) T) (fun q => l.len - q.2) (fun _ => rfl) ?_ (⟨(CV.int 3 :: CV.int 0 :: CV.int 0 :: CV.int 0 :: CV.dat ((hs 0 0).like ([0, 0, 0] : List Int)) :: CV.dat ((hs 0 1).like [false, false, false]) :: CV.bool false :: CV.int 0 :: CV.int 0 :: CV.int 0 :: CV.int 0 :: CV.bool false :: CV.int 0 :: CV.dat (D.slc none 0 []) :: CV.dat (D.slc none 0 []) :: CV.int 0 :: CV.int 0 :: CV.int 0 :: CV.int 0 :: CV.bool false :: CV.int 0 :: CV.dat (D.slc none 0 []) :: CV.dat (D.slc none 0 []) :: CV.int 0 :: CV.int 0 :: CV.int 0 :: CV.int 0 :: CV.bool false :: CV.int 0 :: CV.dat (D.slc none 0 []) :: CV.dat (D.slc none 0 []) :: CV.dat (D.slc none 0 []) :: CV.dat (D.slc none 0 []) :: CV.dat (D.slc none 0 []) :: CV.dat (D.slc none 0 []) :: CV.int 0 :: CV.int 0 :: CV.bool true :: CV.int 0 :: []), beg_shape hs⟩, 0) ⟨Nat.zero_le _, beg_right hs, by rw [beg_eq]; exact beg_play, none, by rw [beg_eq]; exact beg_cut⟩
  intro ⟨⟨cs, hsh⟩, i⟩ ⟨hi, hR, hpl, hT⟩ ih
  simp only at hi hR hpl hT
  obtain ⟨cn, cr, cp, cdl, cps, css, cv, p1, p2, p3, p4, pf, p6, pw, ph, q1, q2, q3, q4, qf, q6, qw, qh, r1, r2, r3, r4, rf, r6, rw, rh, fl, wa, wb, wc, now, clk, rt, st, rfl⟩ := gr_shape hsh
  refine p8_step hl hlen hi hR hpl hT fun cs hsh hR hp hT hi => ?_
  exact ih (⟨cs, hsh⟩, i + 1) ⟨hi, hR, hp, hT⟩ (by simp only; omega)
end Go.Proofs.Ytoechplbhbalaaa
end
