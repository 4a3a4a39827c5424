/- Layer 21: the group, walked. -/
import Derived.KernelRfl
import Derived.Test.YtoechplbhbalaaaBW9gtoBW24
import Derived.Test.YtoechplbhbalaaaBrtoSp
set_option linter.all false
section
open Go Go.Proofs Sx
namespace Go.Proofs.Ytoechplbhbalaaa
set_option maxRecDepth 100000
set_option maxHeartbeats 0
noncomputable def tickL (cn cr cp cdl : Int) (cps css : D) (cv : Bool) (p1 p2 p3 p4 : Int) (pf : Bool) (p6 : Int) (pw ph : D) (q1 q2 q3 q4 : Int) (qf : Bool) (q6 : Int) (qw qh : D) (r1 r2 r3 r4 : Int) (rf : Bool) (r6 : Int) (rw rh : D) (fl wa wb wc : D) (now clk : Int) (rt : Bool) (st : Int) (ek en ew i : Int) : Conf := Conf.mk (SFrm.mk 47 none none [Item.inLoop (cAt Try.prog 47 [1, 1, 1, 1, 1, 0, 1, 0, 0]), Item.inBlock 0, Item.code (cAt Try.prog 47 [1, 1, 1, 1, 1, 1])]
 (mkJ 0 [(2, .ptr 0 0), (3, .ptr 1 0), (4, .ptr 2 0), (7, .int .i64 i)] 0 61)) [] [(0, .cells 97 (cl9 cn cr cp cdl cps css cv p1 p2 p3 p4 pf p6 pw ph q1 q2 q3 q4 qf q6 qw qh r1 r2 r3 r4 rf r6 rw rh fl wa wb wc now clk rt st)), (1, .cells 101 [.int .u8 ek, .int .u8 en, .int .u8 ew]), (2, .cells 97 grZero)]
section
variable (cn cr cp cdl : Int) (cps css : D) (cv : Bool) (p1 p2 p3 p4 : Int) (pf : Bool) (p6 : Int) (pw ph : D) (q1 q2 q3 q4 : Int) (qf : Bool) (q6 : Int) (qw qh : D) (r1 r2 r3 r4 : Int) (rf : Bool) (r6 : Int) (rw rh : D) (fl wa wb wc : D) (now clk : Int) (rt : Bool) (st : Int) (ek en ew : Int)
theorem tick_in : 
 let z1 := (expireCo (CoD.co (CoD.mk cn cr cp cdl cps css cv)) (IntKind.wrap .i64 (now + IntKind.wrap .i64 (1 + Int.tmod (IntKind.wrap .i64 ew) 5))))
 exec Try.prog ctG 900 (entry Try.prog 47 [.agg (cl9 cn cr cp cdl cps css cv p1 p2 p3 p4 pf p6 pw ph q1 q2 q3 q4 qf q6 qw qh r1 r2 r3 r4 rf r6 rw rh fl wa wb wc now clk rt st), .agg [.int .u8 ek, .int .u8 en, .int .u8 ew]]) =
 Tree.need ((5 : Int) ≠ 0) (.need (D.Is Int cps ∧ D.Is Bool css) (.all fun hs => .need (D.Is Msg fl ∧ D.len fl ≤ 1048576 ∧ D.Is Msg (D.like (hs 0 2) (Prod.snd z1)) ∧ D.len (D.like (hs 0 2) (Prod.snd z1)) ≤ 1048576)
 (.all fun hs_1 => .leaf (Conf.mk (SFrm.mk 47 none none [Item.inLoop (cAt Try.prog 47 [1, 1, 1, 1, 1, 0, 1, 0, 0]), Item.inBlock 0, Item.code (cAt Try.prog 47 [1, 1, 1, 1, 1, 1])] (mkJ 0 [(2, .ptr 0 0),
 (3, .ptr 1 0), (4, .ptr 2 0), (7, .int .i64 0)] 0 61)) [] [(0, OBlk.cells 97 [.int .i64 (Co.nodes (Prod.fst z1)), .int .i64 (Co.round (Prod.fst z1)), .int .i64 (Co.phase (Prod.fst z1)), .int .i64 (Co.deadline
 (Prod.fst z1)), .dat (D.like (hs 0 0) (Co.positions (Prod.fst z1))), .dat (D.like (hs 0 1) (Co.seen (Prod.fst z1))), .bool (Co.valid (Prod.fst z1)), .int .i64 p1, .int .i64 p2, .int .i64 p3, .int .i64 p4, .bool pf, .int .i64 p6, .dat pw, .dat ph, .int .i64 q1, .int .i64 q2, .int .i64 q3, .int .i64 q4, .bool qf, .int .i64 q6, .dat qw, .dat qh, .int .i64 r1, .int .i64 r2, .int .i64 r3, .int .i64 r4, .bool rf, .int .i64 r6, .dat rw, .dat rh, .dat
 (D.like (hs_1 0 0) (List.append (D.to Msg fl) (D.to Msg (D.like (hs 0 2) (Prod.snd z1))))), .dat wa, .dat wb, .dat wc, .int .i64 (IntKind.wrap .i64 (now + IntKind.wrap .i64 (1 + Int.tmod (IntKind.wrap .i64 ew) 5))), .int .i64 clk, .bool rt, .int .i64 st]),
 (1, OBlk.cells 101 [.int .u8 ek, .int .u8 en, .int .u8 ew]), (2, OBlk.cells 97 [.int .i64 0, .int .i64 0, .int .i64 0, .int .i64 0, .nils, .nils, .lb false, .int .i64 0, .int .i64 0, .int .i64 0, .int .i64 0, .lb false, .int .i64 0, .nils, .nils, .int .i64 0, .int .i64 0, .int .i64 0, .int .i64 0, .lb false, .int .i64 0, .nils, .nils, .int .i64 0, .int .i64 0, .int .i64 0, .int .i64 0, .lb false, .int .i64 0, .nils, .nils, .nils, .nils, .nils, .nils, .int .i64 0, .int .i64 0, .lb false, .int .i64 0])])))) := by
 intros; kernel_rfl

theorem tick0_go : 
 let z1 := (Prod.fst (relMb (MbD.mb (MbD.mk p1 p2 p3 p4 pf p6 pw ph)) now))
 let z2 : Tree := (.ret (.agg [.int .i64 cn, .int .i64 cr, .int .i64 cp, .int .i64 cdl, .dat cps, .dat css, .bool cv, .int .i64 p1, .int .i64 p2, .int .i64 p3, .int .i64 p4, .bool pf, .int .i64 p6, .dat pw, .dat ph, .int .i64 q1, .int .i64 q2, .int .i64 q3, .int .i64 q4, .bool qf, .int .i64 q6, .dat qw, .dat qh, .int .i64 r1, .int .i64 r2, .int .i64 r3, .int .i64 r4, .bool rf, .int .i64 r6, .dat rw, .dat rh, .dat fl, .dat wa, .dat wb, .dat wc, .int .i64 now, .int .i64 clk, .bool rt, .int .i64 st]))
 let z3 := (Prod.snd (relMb (MbD.mb (MbD.mk p1 p2 p3 p4 pf p6 pw ph)) now))
 exec Try.prog ctG 900 (unroll (tickL cn cr cp cdl cps css cv p1 p2 p3 p4 pf p6 pw ph q1 q2 q3 q4 qf q6 qw qh r1 r2 r3 r4 rf r6 rw rh fl wa wb wc now clk rt st ek en ew 0)) =
 Tree.br true (.need ((2 : Int) ≠ 0) (.br (decide (Int.tmod en 2 = 1)) (.all fun hs => .need ((0 : Int) ≤ 0 ∧ 0 < (↑3 : Int)) (.need (MbD.Right (MbD.mk p1 p2 p3 p4 pf p6 pw ph)) (.need ((0 : Int) ≤ 0 ∧ 0 <
 (↑3 : Int)) (.need (D.Is Wr wa ∧ D.len wa ≤ 1048576 ∧ D.Is Int (D.like (hs 6 2) z3) ∧ D.len (D.like (hs 6 2) z3) ≤ 1048575 ∧ Prod.snd (ackW clk (Mb.frozen z1) (D.to Int (D.like (hs 6 2) z3)) (D.to Wr wa)) = true)
 (.all fun hs_1 => .leaf (Conf.mk (SFrm.mk 47 none none [Item.inLoop (cAt Try.prog 47 [1, 1, 1, 1, 1, 0, 1, 0, 0]), Item.inBlock 0, Item.code (cAt Try.prog 47 [1, 1, 1, 1, 1, 1])] (mkJ 0 [(2, .ptr 0 0),
 (3, .ptr 1 0), (4, .ptr 2 0), (7, .int .i64 (IntKind.wrap .i64 (0 + 1)))] 0 61)) [] [(0, OBlk.cells 97 [.int .i64 cn, .int .i64 cr, .int .i64 cp, .int .i64 cdl, .dat cps, .dat css, .bool cv, .int .i64
 (Mb.round z1), .int .i64 (Mb.position z1), .int .i64 (Mb.thawed z1), .int .i64 (Mb.issued z1), .bool (Mb.frozen z1), .int .i64 (Mb.upto z1), .dat (D.like (hs 6 0) (Mb.waiting z1)), .dat (D.like (hs 6 1)
 (Mb.held z1)), .int .i64 q1, .int .i64 q2, .int .i64 q3, .int .i64 q4, .bool qf, .int .i64 q6, .dat qw, .dat qh, .int .i64 r1, .int .i64 r2, .int .i64 r3, .int .i64 r4, .bool rf, .int .i64 r6, .dat rw, .dat rh, .dat fl, .dat
 (D.like (hs_1 0 0) (Prod.fst (ackW clk (Mb.frozen z1) (D.to Int (D.like (hs 6 2) z3)) (D.to Wr wa)))), .dat wb, .dat wc, .int .i64 now, .int .i64 clk, .bool rt, .int .i64 st]), (1, OBlk.cells 101 [.int .u8 ek, .int .u8 en, .int .u8 ew]),
 (2, OBlk.cells 97 [.int .i64 0, .int .i64 0, .int .i64 0, .int .i64 0, .nils, .nils, .lb false, .int .i64 0, .int .i64 0, .int .i64 0, .int .i64 0, .lb false, .int .i64 0, .nils, .nils, .int .i64 0, .int .i64 0, .int .i64 0, .int .i64 0, .lb false, .int .i64 0, .nils, .nils, .int .i64 0, .int .i64 0, .int .i64 0, .int .i64 0, .lb false, .int .i64 0, .nils, .nils, .nils, .nils, .nils, .nils, .int .i64 0, .int .i64 0, .lb false, .int .i64 0])])))))) z2)) z2 := by
 intros; kernel_rfl

theorem tick1_go : 
 let z1 := (Prod.fst (relMb (MbD.mb (MbD.mk q1 q2 q3 q4 qf q6 qw qh)) now))
 let z2 : Tree := (.ret (.agg [.int .i64 cn, .int .i64 cr, .int .i64 cp, .int .i64 cdl, .dat cps, .dat css, .bool cv, .int .i64 p1, .int .i64 p2, .int .i64 p3, .int .i64 p4, .bool pf, .int .i64 p6, .dat pw, .dat ph, .int .i64 q1, .int .i64 q2, .int .i64 q3, .int .i64 q4, .bool qf, .int .i64 q6, .dat qw, .dat qh, .int .i64 r1, .int .i64 r2, .int .i64 r3, .int .i64 r4, .bool rf, .int .i64 r6, .dat rw, .dat rh, .dat fl, .dat wa, .dat wb, .dat wc, .int .i64 now, .int .i64 clk, .bool rt, .int .i64 st]))
 let z3 := (Prod.snd (relMb (MbD.mb (MbD.mk q1 q2 q3 q4 qf q6 qw qh)) now))
 exec Try.prog ctG 900 (unroll (tickL cn cr cp cdl cps css cv p1 p2 p3 p4 pf p6 pw ph q1 q2 q3 q4 qf q6 qw qh r1 r2 r3 r4 rf r6 rw rh fl wa wb wc now clk rt st ek en ew 1)) =
 Tree.br true (.need ((2 : Int) ≠ 0) (.br (decide (Int.tmod en 2 = 1)) (.all fun hs => .need ((0 : Int) ≤ 1 ∧ 1 < (↑3 : Int)) (.need (MbD.Right (MbD.mk q1 q2 q3 q4 qf q6 qw qh)) (.need ((0 : Int) ≤ 1 ∧ 1 <
 (↑3 : Int)) (.need (D.Is Wr wb ∧ D.len wb ≤ 1048576 ∧ D.Is Int (D.like (hs 6 2) z3) ∧ D.len (D.like (hs 6 2) z3) ≤ 1048575 ∧ Prod.snd (ackW clk (Mb.frozen z1) (D.to Int (D.like (hs 6 2) z3)) (D.to Wr wb)) = true)
 (.all fun hs_1 => .leaf (Conf.mk (SFrm.mk 47 none none [Item.inLoop (cAt Try.prog 47 [1, 1, 1, 1, 1, 0, 1, 0, 0]), Item.inBlock 0, Item.code (cAt Try.prog 47 [1, 1, 1, 1, 1, 1])] (mkJ 0 [(2, .ptr 0 0),
 (3, .ptr 1 0), (4, .ptr 2 0), (7, .int .i64 (IntKind.wrap .i64 (1 + 1)))] 0 61)) [] [(0, OBlk.cells 97 [.int .i64 cn, .int .i64 cr, .int .i64 cp, .int .i64 cdl, .dat cps, .dat css, .bool cv, .int .i64 p1, .int .i64 p2, .int .i64 p3, .int .i64 p4, .bool pf, .int .i64 p6, .dat pw, .dat ph, .int .i64
 (Mb.round z1), .int .i64 (Mb.position z1), .int .i64 (Mb.thawed z1), .int .i64 (Mb.issued z1), .bool (Mb.frozen z1), .int .i64 (Mb.upto z1), .dat (D.like (hs 6 0) (Mb.waiting z1)), .dat (D.like (hs 6 1)
 (Mb.held z1)), .int .i64 r1, .int .i64 r2, .int .i64 r3, .int .i64 r4, .bool rf, .int .i64 r6, .dat rw, .dat rh, .dat fl, .dat wa, .dat (D.like (hs_1 0 0) (Prod.fst (ackW clk (Mb.frozen z1) (D.to Int (D.like
 (hs 6 2) z3)) (D.to Wr wb)))), .dat wc, .int .i64 now, .int .i64 clk, .bool rt, .int .i64 st]), (1, OBlk.cells 101 [.int .u8 ek, .int .u8 en, .int .u8 ew]), (2, OBlk.cells 97 [.int .i64 0, .int .i64 0, .int .i64 0, .int .i64 0, .nils, .nils, .lb false, .int .i64 0, .int .i64 0, .int .i64 0, .int .i64 0, .lb false, .int .i64 0, .nils, .nils, .int .i64 0, .int .i64 0, .int .i64 0, .int .i64 0, .lb false, .int .i64 0, .nils, .nils, .int .i64 0, .int .i64 0, .int .i64 0, .int .i64 0, .lb false, .int .i64 0, .nils, .nils, .nils, .nils, .nils, .nils, .int .i64 0, .int .i64 0, .lb false, .int .i64 0])])))))) z2)) z2 := by
 intros; kernel_rfl

theorem tick2_go : 
 let z1 := (Prod.fst (relMb (MbD.mb (MbD.mk r1 r2 r3 r4 rf r6 rw rh)) now))
 let z2 : Tree := (.ret (.agg [.int .i64 cn, .int .i64 cr, .int .i64 cp, .int .i64 cdl, .dat cps, .dat css, .bool cv, .int .i64 p1, .int .i64 p2, .int .i64 p3, .int .i64 p4, .bool pf, .int .i64 p6, .dat pw, .dat ph, .int .i64 q1, .int .i64 q2, .int .i64 q3, .int .i64 q4, .bool qf, .int .i64 q6, .dat qw, .dat qh, .int .i64 r1, .int .i64 r2, .int .i64 r3, .int .i64 r4, .bool rf, .int .i64 r6, .dat rw, .dat rh, .dat fl, .dat wa, .dat wb, .dat wc, .int .i64 now, .int .i64 clk, .bool rt, .int .i64 st]))
 let z3 := (Prod.snd (relMb (MbD.mb (MbD.mk r1 r2 r3 r4 rf r6 rw rh)) now))
 exec Try.prog ctG 900 (unroll (tickL cn cr cp cdl cps css cv p1 p2 p3 p4 pf p6 pw ph q1 q2 q3 q4 qf q6 qw qh r1 r2 r3 r4 rf r6 rw rh fl wa wb wc now clk rt st ek en ew 2)) =
 Tree.br true (.need ((2 : Int) ≠ 0) (.br (decide (Int.tmod en 2 = 1)) (.all fun hs => .need ((0 : Int) ≤ 2 ∧ 2 < (↑3 : Int)) (.need (MbD.Right (MbD.mk r1 r2 r3 r4 rf r6 rw rh)) (.need ((0 : Int) ≤ 2 ∧ 2 <
 (↑3 : Int)) (.need (D.Is Wr wc ∧ D.len wc ≤ 1048576 ∧ D.Is Int (D.like (hs 6 2) z3) ∧ D.len (D.like (hs 6 2) z3) ≤ 1048575 ∧ Prod.snd (ackW clk (Mb.frozen z1) (D.to Int (D.like (hs 6 2) z3)) (D.to Wr wc)) = true)
 (.all fun hs_1 => .leaf (Conf.mk (SFrm.mk 47 none none [Item.inLoop (cAt Try.prog 47 [1, 1, 1, 1, 1, 0, 1, 0, 0]), Item.inBlock 0, Item.code (cAt Try.prog 47 [1, 1, 1, 1, 1, 1])] (mkJ 0 [(2, .ptr 0 0),
 (3, .ptr 1 0), (4, .ptr 2 0), (7, .int .i64 (IntKind.wrap .i64 (2 + 1)))] 0 61)) [] [(0, OBlk.cells 97 [.int .i64 cn, .int .i64 cr, .int .i64 cp, .int .i64 cdl, .dat cps, .dat css, .bool cv, .int .i64 p1, .int .i64 p2, .int .i64 p3, .int .i64 p4, .bool pf, .int .i64 p6, .dat pw, .dat ph, .int .i64 q1, .int .i64 q2, .int .i64 q3, .int .i64 q4, .bool qf, .int .i64 q6, .dat qw, .dat qh, .int .i64
 (Mb.round z1), .int .i64 (Mb.position z1), .int .i64 (Mb.thawed z1), .int .i64 (Mb.issued z1), .bool (Mb.frozen z1), .int .i64 (Mb.upto z1), .dat (D.like (hs 6 0) (Mb.waiting z1)), .dat (D.like (hs 6 1)
 (Mb.held z1)), .dat fl, .dat wa, .dat wb, .dat (D.like (hs_1 0 0) (Prod.fst (ackW clk (Mb.frozen z1) (D.to Int (D.like (hs 6 2) z3)) (D.to Wr wc)))), .int .i64 now, .int .i64 clk, .bool rt, .int .i64 st]),
 (1, OBlk.cells 101 [.int .u8 ek, .int .u8 en, .int .u8 ew]), (2, OBlk.cells 97 [.int .i64 0, .int .i64 0, .int .i64 0, .int .i64 0, .nils, .nils, .lb false, .int .i64 0, .int .i64 0, .int .i64 0, .int .i64 0, .lb false, .int .i64 0, .nils, .nils, .int .i64 0, .int .i64 0, .int .i64 0, .int .i64 0, .lb false, .int .i64 0, .nils, .nils, .int .i64 0, .int .i64 0, .int .i64 0, .int .i64 0, .lb false, .int .i64 0, .nils, .nils, .nils, .nils, .nils, .nils, .int .i64 0, .int .i64 0, .lb false, .int .i64 0])])))))) z2)) z2 := by
 intros; kernel_rfl

theorem tick3_go : exec Try.prog ctG 900 (unroll (tickL cn cr cp cdl cps css cv p1 p2 p3 p4 pf p6 pw ph q1 q2 q3 q4 qf q6 qw qh r1 r2 r3 r4 rf r6 rw rh fl wa wb wc now clk rt st ek en ew 3)) =
 Tree.br false
 (.need ((2 : Int) ≠ 0)
 (.br (decide (Int.tmod en 2 = 1)) (.all fun hs => Tree.stuck)
 (.ret
 (.agg
 [.int .i64 cn, .int .i64 cr, .int .i64 cp, .int .i64 cdl, .dat cps,
 .dat css, .bool cv, .int .i64 p1, .int .i64 p2, .int .i64 p3,
 .int .i64 p4, .bool pf, .int .i64 p6, .dat pw, .dat ph, .int .i64 q1,
 .int .i64 q2, .int .i64 q3, .int .i64 q4, .bool qf, .int .i64 q6,
 .dat qw, .dat qh, .int .i64 r1, .int .i64 r2, .int .i64 r3,
 .int .i64 r4, .bool rf, .int .i64 r6, .dat rw, .dat rh, .dat fl, .dat wa,
 .dat wb, .dat wc, .int .i64 now, .int .i64 clk, .bool rt, .int .i64 st]))))
 (.ret
 (.agg
 [.int .i64 cn, .int .i64 cr, .int .i64 cp, .int .i64 cdl, .dat cps,
 .dat css, .bool cv, .int .i64 p1, .int .i64 p2, .int .i64 p3,
 .int .i64 p4, .bool pf, .int .i64 p6, .dat pw, .dat ph, .int .i64 q1,
 .int .i64 q2, .int .i64 q3, .int .i64 q4, .bool qf, .int .i64 q6,
 .dat qw, .dat qh, .int .i64 r1, .int .i64 r2, .int .i64 r3,
 .int .i64 r4, .bool rf, .int .i64 r6, .dat rw, .dat rh, .dat fl, .dat wa, .dat wb,
 .dat wc, .int .i64 now, .int .i64 clk, .bool rt, .int .i64 st])) := by kernel_rfl

theorem durg0_in : 
 let z2 := (Int.toNat (Int.tmod (IntKind.wrap .i64 ew) (↑(D.len pw) : Int)))
 let z1 := (durMb (MbD.mb (MbD.mk p1 p2 p3 p4 pf p6 pw ph)) (D.getInt pw z2 0))
 let z3 : Tree := (.ret (.agg [.int .i64 cn, .int .i64 cr, .int .i64 cp, .int .i64 cdl, .dat cps, .dat css, .bool cv, .int .i64 p1, .int .i64 p2, .int .i64 p3, .int .i64 p4, .bool pf, .int .i64 p6, .dat pw, .dat ph, .int .i64 q1, .int .i64 q2, .int .i64 q3, .int .i64 q4, .bool qf, .int .i64 q6, .dat qw, .dat qh, .int .i64 r1, .int .i64 r2, .int .i64 r3, .int .i64 r4, .bool rf, .int .i64 r6, .dat rw, .dat rh, .dat fl, .dat wa, .dat wb, .dat wc, .int .i64 now, .int .i64 clk, .lb false, .int .i64 st]))
 exec Try.prog ctG 900 (entry Try.prog 76 [.agg (cl9 cn cr cp cdl cps css cv p1 p2 p3 p4 pf p6 pw ph q1 q2 q3 q4 qf q6 qw qh r1 r2 r3 r4 rf r6 rw rh fl wa wb wc now clk rt st), .int .i64 0, .int .u8 ew]) =
 Tree.need ((0 : Int) ≤ 0 ∧ 0 < (↑3 : Int)) (.br (decide ((↑(D.len pw) : Int) = 0)) (.ret (.agg [.int .i64 cn, .int .i64 cr, .int .i64 cp, .int .i64 cdl, .dat cps, .dat css, .bool cv, .int .i64 p1, .int .i64 p2, .int .i64 p3, .int .i64 p4, .bool pf, .int .i64 p6, .dat pw, .dat ph, .int .i64 q1, .int .i64 q2, .int .i64 q3, .int .i64 q4, .bool qf, .int .i64 q6, .dat qw, .dat qh, .int .i64 r1, .int .i64 r2, .int .i64 r3, .int .i64 r4, .bool rf, .int .i64 r6, .dat rw, .dat rh, .dat fl, .dat wa, .dat wb, .dat wc, .int .i64 now, .int .i64 clk, .bool rt, .int .i64 st]))
 (.all fun hs => .need ((0 : Int) ≤ 0 ∧ 0 < (↑3 : Int)) (.need ((0 : Int) ≤ 0 ∧ 0 < (↑3 : Int)) (.need ((↑(D.len pw) : Int) ≠ 0) (.need (0 ≤ Int.tmod (IntKind.wrap .i64 ew) (↑(D.len pw) : Int) ∧ Int.tmod
 (IntKind.wrap .i64 ew) (↑(D.len pw) : Int) < (↑(D.len pw) : Int) ∧ D.sz pw = 1) (.need (D.HasCell pw z2 0 (FT.int .i64)) (.br (decide (D.getInt pw z2 0 < 0)) z3 (.need ((0 : Int) ≤ 0 ∧ 0 < (↑3 : Int))
 (.br (decide (D.getInt pw z2 0 ≥ (↑(D.len wa) : Int))) z3 (.all fun hs => .need ((0 : Int) ≤ 0 ∧ 0 < (↑3 : Int)) (.need (D.sz (D.slc (D.hd (hs 0 0)) 4 []) = 4 ∧ D.Fits wa 4 ∧ (D.len (D.slc (D.hd (hs 0 0)) 4 []) + D.len wa) * 32 ≤ 140737488355328 ∧ D.len
 (D.slc (D.hd (hs 0 0)) 4 []) + D.len wa ≤ 9223372036854775807) (.all fun hs_1 => .need ((0 : Int) ≤ 0 ∧ 0 < (↑3 : Int)) (.all fun hs_2 => .need ((0 : Int) ≤ 0 ∧ 0 < (↑3 : Int)) (.need (0 ≤ D.getInt pw z2 0 ∧ D.getInt pw z2 0 <
 (↑(D.len (D.slc (D.hd (hs_1 0 0)) 4 (List.append (D.rows (D.slc (D.hd (hs 0 0)) 4 [])) (D.rows wa)))) : Int) ∧ D.sz (D.slc (D.hd (hs_1 0 0)) 4 (List.append (D.rows (D.slc (D.hd (hs 0 0)) 4 [])) (D.rows wa))) = 4)
 (.need (Int.toNat (D.getInt pw z2 0) < D.len (D.slc (D.hd (hs_1 0 0)) 4 (List.append (D.rows (D.slc (D.hd (hs 0 0)) 4 [])) (D.rows wa))) ∧ 3 ≤ D.sz (D.slc (D.hd (hs_1 0 0)) 4 (List.append (D.rows (D.slc
 (D.hd (hs 0 0)) 4 [])) (D.rows wa))) ∧ D.sz (D.slc (D.hd (hs_1 0 0)) 4 (List.append (D.rows (D.slc (D.hd (hs 0 0)) 4 [])) (D.rows wa))) = 4) (.need ((0 : Int) ≤ 0 ∧ 0 < (↑3 : Int)) (.need (MbD.Right (MbD.mk p1 p2 p3 p4 pf p6 pw ph))
 (.all fun hs_3 => .br rt (.need ((0 : Int) ≤ 0 ∧ 0 < (↑3 : Int)) (.need (D.Is Wr (D.setCells (D.slc (D.hd (hs_1 0 0)) 4 (List.append (D.rows (D.slc (D.hd (hs 0 0)) 4 [])) (D.rows wa))) (Int.toNat (D.getInt pw z2 0)) 2 [D.int .i64 clk]) ∧ D.len
 (D.setCells (D.slc (D.hd (hs_1 0 0)) 4 (List.append (D.rows (D.slc (D.hd (hs 0 0)) 4 [])) (D.rows wa))) (Int.toNat (D.getInt pw z2 0)) 2 [D.int .i64 clk]) ≤ 1048576 ∧ D.Is Int (D.like (hs_3 0 2) (Prod.fst
 (Prod.snd z1))) ∧ D.len (D.like (hs_3 0 2) (Prod.fst (Prod.snd z1))) ≤ 1048575 ∧ Prod.snd (ackW clk (Mb.frozen (Prod.fst z1)) (D.to Int (D.like (hs_3 0 2) (Prod.fst (Prod.snd z1)))) (D.to Wr (D.setCells
 (D.slc (D.hd (hs_1 0 0)) 4 (List.append (D.rows (D.slc (D.hd (hs 0 0)) 4 [])) (D.rows wa))) (Int.toNat (D.getInt pw z2 0)) 2 [D.int .i64 clk]))) = true) (.all fun hs_4 => .ret (.agg [.int .i64 cn, .int .i64 cr, .int .i64 cp, .int .i64 cdl, .dat cps, .dat css, .bool cv, .int .i64
 (Mb.round (Prod.fst z1)), .int .i64 (Mb.position (Prod.fst z1)), .int .i64 (Mb.thawed (Prod.fst z1)), .int .i64 (Mb.issued (Prod.fst z1)), .bool (Mb.frozen (Prod.fst z1)), .int .i64 (Mb.upto (Prod.fst z1)), .dat
 (D.like (hs_3 0 0) (Mb.waiting (Prod.fst z1))), .dat (D.like (hs_3 0 1) (Mb.held (Prod.fst z1))), .int .i64 q1, .int .i64 q2, .int .i64 q3, .int .i64 q4, .bool qf, .int .i64 q6, .dat qw, .dat qh, .int .i64 r1, .int .i64 r2, .int .i64 r3, .int .i64 r4, .bool rf, .int .i64 r6, .dat rw, .dat rh, .dat fl, .dat
 (D.like (hs_4 0 0) (Prod.fst (ackW clk (Mb.frozen (Prod.fst z1)) (D.to Int (D.like (hs_3 0 2) (Prod.fst (Prod.snd z1)))) (D.to Wr (D.setCells (D.slc (D.hd (hs_1 0 0)) 4 (List.append (D.rows (D.slc (D.hd
 (hs 0 0)) 4 [])) (D.rows wa))) (Int.toNat (D.getInt pw z2 0)) 2 [D.int .i64 clk]))))), .dat wb, .dat wc, .int .i64 now, .int .i64 clk, .bool (decide (Prod.snd (Prod.snd z1) = 0)), .int .i64 st])))) (.need
 ((0 : Int) ≤ 0 ∧ 0 < (↑3 : Int)) (.need (D.Is Wr (D.setCells (D.slc (D.hd (hs_1 0 0)) 4 (List.append (D.rows (D.slc (D.hd (hs 0 0)) 4 [])) (D.rows wa))) (Int.toNat (D.getInt pw z2 0)) 2 [D.int .i64 clk]) ∧ D.len
 (D.setCells (D.slc (D.hd (hs_1 0 0)) 4 (List.append (D.rows (D.slc (D.hd (hs 0 0)) 4 [])) (D.rows wa))) (Int.toNat (D.getInt pw z2 0)) 2 [D.int .i64 clk]) ≤ 1048576 ∧ D.Is Int (D.like (hs_3 0 2) (Prod.fst
 (Prod.snd z1))) ∧ D.len (D.like (hs_3 0 2) (Prod.fst (Prod.snd z1))) ≤ 1048575 ∧ Prod.snd (ackW clk (Mb.frozen (Prod.fst z1)) (D.to Int (D.like (hs_3 0 2) (Prod.fst (Prod.snd z1)))) (D.to Wr (D.setCells
 (D.slc (D.hd (hs_1 0 0)) 4 (List.append (D.rows (D.slc (D.hd (hs 0 0)) 4 [])) (D.rows wa))) (Int.toNat (D.getInt pw z2 0)) 2 [D.int .i64 clk]))) = true) (.all fun hs_4 => .ret (.agg [.int .i64 cn, .int .i64 cr, .int .i64 cp, .int .i64 cdl, .dat cps, .dat css, .bool cv, .int .i64
 (Mb.round (Prod.fst z1)), .int .i64 (Mb.position (Prod.fst z1)), .int .i64 (Mb.thawed (Prod.fst z1)), .int .i64 (Mb.issued (Prod.fst z1)), .bool (Mb.frozen (Prod.fst z1)), .int .i64 (Mb.upto (Prod.fst z1)), .dat
 (D.like (hs_3 0 0) (Mb.waiting (Prod.fst z1))), .dat (D.like (hs_3 0 1) (Mb.held (Prod.fst z1))), .int .i64 q1, .int .i64 q2, .int .i64 q3, .int .i64 q4, .bool qf, .int .i64 q6, .dat qw, .dat qh, .int .i64 r1, .int .i64 r2, .int .i64 r3, .int .i64 r4, .bool rf, .int .i64 r6, .dat rw, .dat rh, .dat fl, .dat
 (D.like (hs_4 0 0) (Prod.fst (ackW clk (Mb.frozen (Prod.fst z1)) (D.to Int (D.like (hs_3 0 2) (Prod.fst (Prod.snd z1)))) (D.to Wr (D.setCells (D.slc (D.hd (hs_1 0 0)) 4 (List.append (D.rows (D.slc (D.hd
 (hs 0 0)) 4 [])) (D.rows wa))) (Int.toNat (D.getInt pw z2 0)) 2 [D.int .i64 clk]))))), .dat wb, .dat wc, .int .i64 now, .int .i64 clk, .bool false, .int .i64 st])))))))))))))))))))))) := by
 intros; kernel_rfl

theorem durg1_in : 
 let z2 := (Int.toNat (Int.tmod (IntKind.wrap .i64 ew) (↑(D.len qw) : Int)))
 let z1 := (durMb (MbD.mb (MbD.mk q1 q2 q3 q4 qf q6 qw qh)) (D.getInt qw z2 0))
 let z3 : Tree := (.ret (.agg [.int .i64 cn, .int .i64 cr, .int .i64 cp, .int .i64 cdl, .dat cps, .dat css, .bool cv, .int .i64 p1, .int .i64 p2, .int .i64 p3, .int .i64 p4, .bool pf, .int .i64 p6, .dat pw, .dat ph, .int .i64 q1, .int .i64 q2, .int .i64 q3, .int .i64 q4, .bool qf, .int .i64 q6, .dat qw, .dat qh, .int .i64 r1, .int .i64 r2, .int .i64 r3, .int .i64 r4, .bool rf, .int .i64 r6, .dat rw, .dat rh, .dat fl, .dat wa, .dat wb, .dat wc, .int .i64 now, .int .i64 clk, .lb false, .int .i64 st]))
 exec Try.prog ctG 900 (entry Try.prog 76 [.agg (cl9 cn cr cp cdl cps css cv p1 p2 p3 p4 pf p6 pw ph q1 q2 q3 q4 qf q6 qw qh r1 r2 r3 r4 rf r6 rw rh fl wa wb wc now clk rt st), .int .i64 1, .int .u8 ew]) =
 Tree.need ((0 : Int) ≤ 1 ∧ 1 < (↑3 : Int)) (.br (decide ((↑(D.len qw) : Int) = 0)) (.ret (.agg [.int .i64 cn, .int .i64 cr, .int .i64 cp, .int .i64 cdl, .dat cps, .dat css, .bool cv, .int .i64 p1, .int .i64 p2, .int .i64 p3, .int .i64 p4, .bool pf, .int .i64 p6, .dat pw, .dat ph, .int .i64 q1, .int .i64 q2, .int .i64 q3, .int .i64 q4, .bool qf, .int .i64 q6, .dat qw, .dat qh, .int .i64 r1, .int .i64 r2, .int .i64 r3, .int .i64 r4, .bool rf, .int .i64 r6, .dat rw, .dat rh, .dat fl, .dat wa, .dat wb, .dat wc, .int .i64 now, .int .i64 clk, .bool rt, .int .i64 st]))
 (.all fun hs => .need ((0 : Int) ≤ 1 ∧ 1 < (↑3 : Int)) (.need ((0 : Int) ≤ 1 ∧ 1 < (↑3 : Int)) (.need ((↑(D.len qw) : Int) ≠ 0) (.need (0 ≤ Int.tmod (IntKind.wrap .i64 ew) (↑(D.len qw) : Int) ∧ Int.tmod
 (IntKind.wrap .i64 ew) (↑(D.len qw) : Int) < (↑(D.len qw) : Int) ∧ D.sz qw = 1) (.need (D.HasCell qw z2 0 (FT.int .i64)) (.br (decide (D.getInt qw z2 0 < 0)) z3 (.need ((0 : Int) ≤ 1 ∧ 1 < (↑3 : Int))
 (.br (decide (D.getInt qw z2 0 ≥ (↑(D.len wb) : Int))) z3 (.all fun hs => .need ((0 : Int) ≤ 1 ∧ 1 < (↑3 : Int)) (.need (D.sz (D.slc (D.hd (hs 0 0)) 4 []) = 4 ∧ D.Fits wb 4 ∧ (D.len (D.slc (D.hd (hs 0 0)) 4 []) + D.len wb) * 32 ≤ 140737488355328 ∧ D.len
 (D.slc (D.hd (hs 0 0)) 4 []) + D.len wb ≤ 9223372036854775807) (.all fun hs_1 => .need ((0 : Int) ≤ 1 ∧ 1 < (↑3 : Int)) (.all fun hs_2 => .need ((0 : Int) ≤ 1 ∧ 1 < (↑3 : Int)) (.need (0 ≤ D.getInt qw z2 0 ∧ D.getInt qw z2 0 <
 (↑(D.len (D.slc (D.hd (hs_1 0 0)) 4 (List.append (D.rows (D.slc (D.hd (hs 0 0)) 4 [])) (D.rows wb)))) : Int) ∧ D.sz (D.slc (D.hd (hs_1 0 0)) 4 (List.append (D.rows (D.slc (D.hd (hs 0 0)) 4 [])) (D.rows wb))) = 4)
 (.need (Int.toNat (D.getInt qw z2 0) < D.len (D.slc (D.hd (hs_1 0 0)) 4 (List.append (D.rows (D.slc (D.hd (hs 0 0)) 4 [])) (D.rows wb))) ∧ 3 ≤ D.sz (D.slc (D.hd (hs_1 0 0)) 4 (List.append (D.rows (D.slc
 (D.hd (hs 0 0)) 4 [])) (D.rows wb))) ∧ D.sz (D.slc (D.hd (hs_1 0 0)) 4 (List.append (D.rows (D.slc (D.hd (hs 0 0)) 4 [])) (D.rows wb))) = 4) (.need ((0 : Int) ≤ 1 ∧ 1 < (↑3 : Int)) (.need (MbD.Right (MbD.mk q1 q2 q3 q4 qf q6 qw qh))
 (.all fun hs_3 => .br rt (.need ((0 : Int) ≤ 1 ∧ 1 < (↑3 : Int)) (.need (D.Is Wr (D.setCells (D.slc (D.hd (hs_1 0 0)) 4 (List.append (D.rows (D.slc (D.hd (hs 0 0)) 4 [])) (D.rows wb))) (Int.toNat (D.getInt qw z2 0)) 2 [D.int .i64 clk]) ∧ D.len
 (D.setCells (D.slc (D.hd (hs_1 0 0)) 4 (List.append (D.rows (D.slc (D.hd (hs 0 0)) 4 [])) (D.rows wb))) (Int.toNat (D.getInt qw z2 0)) 2 [D.int .i64 clk]) ≤ 1048576 ∧ D.Is Int (D.like (hs_3 0 2) (Prod.fst
 (Prod.snd z1))) ∧ D.len (D.like (hs_3 0 2) (Prod.fst (Prod.snd z1))) ≤ 1048575 ∧ Prod.snd (ackW clk (Mb.frozen (Prod.fst z1)) (D.to Int (D.like (hs_3 0 2) (Prod.fst (Prod.snd z1)))) (D.to Wr (D.setCells
 (D.slc (D.hd (hs_1 0 0)) 4 (List.append (D.rows (D.slc (D.hd (hs 0 0)) 4 [])) (D.rows wb))) (Int.toNat (D.getInt qw z2 0)) 2 [D.int .i64 clk]))) = true) (.all fun hs_4 => .ret (.agg [.int .i64 cn, .int .i64 cr, .int .i64 cp, .int .i64 cdl, .dat cps, .dat css, .bool cv, .int .i64 p1, .int .i64 p2, .int .i64 p3, .int .i64 p4, .bool pf, .int .i64 p6, .dat pw, .dat ph, .int .i64
 (Mb.round (Prod.fst z1)), .int .i64 (Mb.position (Prod.fst z1)), .int .i64 (Mb.thawed (Prod.fst z1)), .int .i64 (Mb.issued (Prod.fst z1)), .bool (Mb.frozen (Prod.fst z1)), .int .i64 (Mb.upto (Prod.fst z1)), .dat
 (D.like (hs_3 0 0) (Mb.waiting (Prod.fst z1))), .dat (D.like (hs_3 0 1) (Mb.held (Prod.fst z1))), .int .i64 r1, .int .i64 r2, .int .i64 r3, .int .i64 r4, .bool rf, .int .i64 r6, .dat rw, .dat rh, .dat fl, .dat wa, .dat
 (D.like (hs_4 0 0) (Prod.fst (ackW clk (Mb.frozen (Prod.fst z1)) (D.to Int (D.like (hs_3 0 2) (Prod.fst (Prod.snd z1)))) (D.to Wr (D.setCells (D.slc (D.hd (hs_1 0 0)) 4 (List.append (D.rows (D.slc (D.hd
 (hs 0 0)) 4 [])) (D.rows wb))) (Int.toNat (D.getInt qw z2 0)) 2 [D.int .i64 clk]))))), .dat wc, .int .i64 now, .int .i64 clk, .bool (decide (Prod.snd (Prod.snd z1) = 0)), .int .i64 st])))) (.need ((0 : Int) ≤ 1 ∧ 1 <
 (↑3 : Int)) (.need (D.Is Wr (D.setCells (D.slc (D.hd (hs_1 0 0)) 4 (List.append (D.rows (D.slc (D.hd (hs 0 0)) 4 [])) (D.rows wb))) (Int.toNat (D.getInt qw z2 0)) 2 [D.int .i64 clk]) ∧ D.len (D.setCells
 (D.slc (D.hd (hs_1 0 0)) 4 (List.append (D.rows (D.slc (D.hd (hs 0 0)) 4 [])) (D.rows wb))) (Int.toNat (D.getInt qw z2 0)) 2 [D.int .i64 clk]) ≤ 1048576 ∧ D.Is Int (D.like (hs_3 0 2) (Prod.fst (Prod.snd z1))) ∧ D.len
 (D.like (hs_3 0 2) (Prod.fst (Prod.snd z1))) ≤ 1048575 ∧ Prod.snd (ackW clk (Mb.frozen (Prod.fst z1)) (D.to Int (D.like (hs_3 0 2) (Prod.fst (Prod.snd z1)))) (D.to Wr (D.setCells (D.slc (D.hd (hs_1 0 0)) 4
 (List.append (D.rows (D.slc (D.hd (hs 0 0)) 4 [])) (D.rows wb))) (Int.toNat (D.getInt qw z2 0)) 2 [D.int .i64 clk]))) = true) (.all fun hs_4 => .ret (.agg [.int .i64 cn, .int .i64 cr, .int .i64 cp, .int .i64 cdl, .dat cps, .dat css, .bool cv, .int .i64 p1, .int .i64 p2, .int .i64 p3, .int .i64 p4, .bool pf, .int .i64 p6, .dat pw, .dat ph, .int .i64
 (Mb.round (Prod.fst z1)), .int .i64 (Mb.position (Prod.fst z1)), .int .i64 (Mb.thawed (Prod.fst z1)), .int .i64 (Mb.issued (Prod.fst z1)), .bool (Mb.frozen (Prod.fst z1)), .int .i64 (Mb.upto (Prod.fst z1)), .dat
 (D.like (hs_3 0 0) (Mb.waiting (Prod.fst z1))), .dat (D.like (hs_3 0 1) (Mb.held (Prod.fst z1))), .int .i64 r1, .int .i64 r2, .int .i64 r3, .int .i64 r4, .bool rf, .int .i64 r6, .dat rw, .dat rh, .dat fl, .dat wa, .dat
 (D.like (hs_4 0 0) (Prod.fst (ackW clk (Mb.frozen (Prod.fst z1)) (D.to Int (D.like (hs_3 0 2) (Prod.fst (Prod.snd z1)))) (D.to Wr (D.setCells (D.slc (D.hd (hs_1 0 0)) 4 (List.append (D.rows (D.slc (D.hd
 (hs 0 0)) 4 [])) (D.rows wb))) (Int.toNat (D.getInt qw z2 0)) 2 [D.int .i64 clk]))))), .dat wc, .int .i64 now, .int .i64 clk, .bool false, .int .i64 st])))))))))))))))))))))) := by
 intros; kernel_rfl

theorem durg2_in : 
 let z2 := (Int.toNat (Int.tmod (IntKind.wrap .i64 ew) (↑(D.len rw) : Int)))
 let z1 := (durMb (MbD.mb (MbD.mk r1 r2 r3 r4 rf r6 rw rh)) (D.getInt rw z2 0))
 let z3 : Tree := (.ret (.agg [.int .i64 cn, .int .i64 cr, .int .i64 cp, .int .i64 cdl, .dat cps, .dat css, .bool cv, .int .i64 p1, .int .i64 p2, .int .i64 p3, .int .i64 p4, .bool pf, .int .i64 p6, .dat pw, .dat ph, .int .i64 q1, .int .i64 q2, .int .i64 q3, .int .i64 q4, .bool qf, .int .i64 q6, .dat qw, .dat qh, .int .i64 r1, .int .i64 r2, .int .i64 r3, .int .i64 r4, .bool rf, .int .i64 r6, .dat rw, .dat rh, .dat fl, .dat wa, .dat wb, .dat wc, .int .i64 now, .int .i64 clk, .lb false, .int .i64 st]))
 exec Try.prog ctG 900 (entry Try.prog 76 [.agg (cl9 cn cr cp cdl cps css cv p1 p2 p3 p4 pf p6 pw ph q1 q2 q3 q4 qf q6 qw qh r1 r2 r3 r4 rf r6 rw rh fl wa wb wc now clk rt st), .int .i64 2, .int .u8 ew]) =
 Tree.need ((0 : Int) ≤ 2 ∧ 2 < (↑3 : Int)) (.br (decide ((↑(D.len rw) : Int) = 0)) (.ret (.agg [.int .i64 cn, .int .i64 cr, .int .i64 cp, .int .i64 cdl, .dat cps, .dat css, .bool cv, .int .i64 p1, .int .i64 p2, .int .i64 p3, .int .i64 p4, .bool pf, .int .i64 p6, .dat pw, .dat ph, .int .i64 q1, .int .i64 q2, .int .i64 q3, .int .i64 q4, .bool qf, .int .i64 q6, .dat qw, .dat qh, .int .i64 r1, .int .i64 r2, .int .i64 r3, .int .i64 r4, .bool rf, .int .i64 r6, .dat rw, .dat rh, .dat fl, .dat wa, .dat wb, .dat wc, .int .i64 now, .int .i64 clk, .bool rt, .int .i64 st]))
 (.all fun hs => .need ((0 : Int) ≤ 2 ∧ 2 < (↑3 : Int)) (.need ((0 : Int) ≤ 2 ∧ 2 < (↑3 : Int)) (.need ((↑(D.len rw) : Int) ≠ 0) (.need (0 ≤ Int.tmod (IntKind.wrap .i64 ew) (↑(D.len rw) : Int) ∧ Int.tmod
 (IntKind.wrap .i64 ew) (↑(D.len rw) : Int) < (↑(D.len rw) : Int) ∧ D.sz rw = 1) (.need (D.HasCell rw z2 0 (FT.int .i64)) (.br (decide (D.getInt rw z2 0 < 0)) z3 (.need ((0 : Int) ≤ 2 ∧ 2 < (↑3 : Int))
 (.br (decide (D.getInt rw z2 0 ≥ (↑(D.len wc) : Int))) z3 (.all fun hs => .need ((0 : Int) ≤ 2 ∧ 2 < (↑3 : Int)) (.need (D.sz (D.slc (D.hd (hs 0 0)) 4 []) = 4 ∧ D.Fits wc 4 ∧ (D.len (D.slc (D.hd (hs 0 0)) 4 []) + D.len wc) * 32 ≤ 140737488355328 ∧ D.len
 (D.slc (D.hd (hs 0 0)) 4 []) + D.len wc ≤ 9223372036854775807) (.all fun hs_1 => .need ((0 : Int) ≤ 2 ∧ 2 < (↑3 : Int)) (.all fun hs_2 => .need ((0 : Int) ≤ 2 ∧ 2 < (↑3 : Int)) (.need (0 ≤ D.getInt rw z2 0 ∧ D.getInt rw z2 0 <
 (↑(D.len (D.slc (D.hd (hs_1 0 0)) 4 (List.append (D.rows (D.slc (D.hd (hs 0 0)) 4 [])) (D.rows wc)))) : Int) ∧ D.sz (D.slc (D.hd (hs_1 0 0)) 4 (List.append (D.rows (D.slc (D.hd (hs 0 0)) 4 [])) (D.rows wc))) = 4)
 (.need (Int.toNat (D.getInt rw z2 0) < D.len (D.slc (D.hd (hs_1 0 0)) 4 (List.append (D.rows (D.slc (D.hd (hs 0 0)) 4 [])) (D.rows wc))) ∧ 3 ≤ D.sz (D.slc (D.hd (hs_1 0 0)) 4 (List.append (D.rows (D.slc
 (D.hd (hs 0 0)) 4 [])) (D.rows wc))) ∧ D.sz (D.slc (D.hd (hs_1 0 0)) 4 (List.append (D.rows (D.slc (D.hd (hs 0 0)) 4 [])) (D.rows wc))) = 4) (.need ((0 : Int) ≤ 2 ∧ 2 < (↑3 : Int)) (.need (MbD.Right (MbD.mk r1 r2 r3 r4 rf r6 rw rh))
 (.all fun hs_3 => .br rt (.need ((0 : Int) ≤ 2 ∧ 2 < (↑3 : Int)) (.need (D.Is Wr (D.setCells (D.slc (D.hd (hs_1 0 0)) 4 (List.append (D.rows (D.slc (D.hd (hs 0 0)) 4 [])) (D.rows wc))) (Int.toNat (D.getInt rw z2 0)) 2 [D.int .i64 clk]) ∧ D.len
 (D.setCells (D.slc (D.hd (hs_1 0 0)) 4 (List.append (D.rows (D.slc (D.hd (hs 0 0)) 4 [])) (D.rows wc))) (Int.toNat (D.getInt rw z2 0)) 2 [D.int .i64 clk]) ≤ 1048576 ∧ D.Is Int (D.like (hs_3 0 2) (Prod.fst
 (Prod.snd z1))) ∧ D.len (D.like (hs_3 0 2) (Prod.fst (Prod.snd z1))) ≤ 1048575 ∧ Prod.snd (ackW clk (Mb.frozen (Prod.fst z1)) (D.to Int (D.like (hs_3 0 2) (Prod.fst (Prod.snd z1)))) (D.to Wr (D.setCells
 (D.slc (D.hd (hs_1 0 0)) 4 (List.append (D.rows (D.slc (D.hd (hs 0 0)) 4 [])) (D.rows wc))) (Int.toNat (D.getInt rw z2 0)) 2 [D.int .i64 clk]))) = true) (.all fun hs_4 => .ret (.agg [.int .i64 cn, .int .i64 cr, .int .i64 cp, .int .i64 cdl, .dat cps, .dat css, .bool cv, .int .i64 p1, .int .i64 p2, .int .i64 p3, .int .i64 p4, .bool pf, .int .i64 p6, .dat pw, .dat ph, .int .i64 q1, .int .i64 q2, .int .i64 q3, .int .i64 q4, .bool qf, .int .i64 q6, .dat qw, .dat qh, .int .i64
 (Mb.round (Prod.fst z1)), .int .i64 (Mb.position (Prod.fst z1)), .int .i64 (Mb.thawed (Prod.fst z1)), .int .i64 (Mb.issued (Prod.fst z1)), .bool (Mb.frozen (Prod.fst z1)), .int .i64 (Mb.upto (Prod.fst z1)), .dat
 (D.like (hs_3 0 0) (Mb.waiting (Prod.fst z1))), .dat (D.like (hs_3 0 1) (Mb.held (Prod.fst z1))), .dat fl, .dat wa, .dat wb, .dat (D.like (hs_4 0 0) (Prod.fst (ackW clk (Mb.frozen (Prod.fst z1)) (D.to Int
 (D.like (hs_3 0 2) (Prod.fst (Prod.snd z1)))) (D.to Wr (D.setCells (D.slc (D.hd (hs_1 0 0)) 4 (List.append (D.rows (D.slc (D.hd (hs 0 0)) 4 [])) (D.rows wc))) (Int.toNat (D.getInt rw z2 0)) 2 [D.int .i64 clk]))))), .int .i64 now, .int .i64 clk, .bool
 (decide (Prod.snd (Prod.snd z1) = 0)), .int .i64 st])))) (.need ((0 : Int) ≤ 2 ∧ 2 < (↑3 : Int)) (.need (D.Is Wr (D.setCells (D.slc (D.hd (hs_1 0 0)) 4 (List.append (D.rows (D.slc (D.hd (hs 0 0)) 4 []))
 (D.rows wc))) (Int.toNat (D.getInt rw z2 0)) 2 [D.int .i64 clk]) ∧ D.len (D.setCells (D.slc (D.hd (hs_1 0 0)) 4 (List.append (D.rows (D.slc (D.hd (hs 0 0)) 4 [])) (D.rows wc))) (Int.toNat (D.getInt rw z2 0)) 2 [D.int .i64 clk]) ≤ 1048576 ∧ D.Is Int
 (D.like (hs_3 0 2) (Prod.fst (Prod.snd z1))) ∧ D.len (D.like (hs_3 0 2) (Prod.fst (Prod.snd z1))) ≤ 1048575 ∧ Prod.snd (ackW clk (Mb.frozen (Prod.fst z1)) (D.to Int (D.like (hs_3 0 2) (Prod.fst (Prod.snd z1))))
 (D.to Wr (D.setCells (D.slc (D.hd (hs_1 0 0)) 4 (List.append (D.rows (D.slc (D.hd (hs 0 0)) 4 [])) (D.rows wc))) (Int.toNat (D.getInt rw z2 0)) 2 [D.int .i64 clk]))) = true) (.all fun hs_4 => .ret (.agg [.int .i64 cn, .int .i64 cr, .int .i64 cp, .int .i64 cdl, .dat cps, .dat css, .bool cv, .int .i64 p1, .int .i64 p2, .int .i64 p3, .int .i64 p4, .bool pf, .int .i64 p6, .dat pw, .dat ph, .int .i64 q1, .int .i64 q2, .int .i64 q3, .int .i64 q4, .bool qf, .int .i64 q6, .dat qw, .dat qh, .int .i64
 (Mb.round (Prod.fst z1)), .int .i64 (Mb.position (Prod.fst z1)), .int .i64 (Mb.thawed (Prod.fst z1)), .int .i64 (Mb.issued (Prod.fst z1)), .bool (Mb.frozen (Prod.fst z1)), .int .i64 (Mb.upto (Prod.fst z1)), .dat
 (D.like (hs_3 0 0) (Mb.waiting (Prod.fst z1))), .dat (D.like (hs_3 0 1) (Mb.held (Prod.fst z1))), .dat fl, .dat wa, .dat wb, .dat (D.like (hs_4 0 0) (Prod.fst (ackW clk (Mb.frozen (Prod.fst z1)) (D.to Int
 (D.like (hs_3 0 2) (Prod.fst (Prod.snd z1)))) (D.to Wr (D.setCells (D.slc (D.hd (hs_1 0 0)) 4 (List.append (D.rows (D.slc (D.hd (hs 0 0)) 4 [])) (D.rows wc))) (Int.toNat (D.getInt rw z2 0)) 2 [D.int .i64 clk]))))), .int .i64 now, .int .i64 clk, .bool false, .int .i64 st])))))))))))))))))))))) := by
 intros; kernel_rfl

end
end Go.Proofs.Ytoechplbhbalaaa
end
section
open Go Go.Proofs Sx
namespace Go.Proofs.Ytoechplbhbalaaa
set_option maxRecDepth 100000
set_option maxHeartbeats 0

theorem tick3_run {w : World} {H : HV} {cn cr cp cdl : Int} {cps css : D} {cv : Bool} {p1 p2 p3 p4 : Int} {pf : Bool} {p6 : Int} {pw ph : D} {q1 q2 q3 q4 : Int} {qf : Bool} {q6 : Int} {qw qh : D} {r1 r2 r3 r4 : Int} {rf : Bool} {r6 : Int} {rw rh : D} {fl wa wb wc : D} {now clk : Int} {rt : Bool} {st : Int} {ek en ew : Int} (hR : GrRight (cv9 cn cr cp cdl cps css cv p1 p2 p3 p4 pf p6 pw ph q1 q2 q3 q4 qf q6 qw qh r1 r2 r3 r4 rf r6 rw rh fl wa wb wc now clk rt st)) :
  Runs Try.prog ⟨w, H⟩ (tickL cn cr cp cdl cps css cv p1 p2 p3 p4 pf p6 pw ph q1 q2 q3 q4 qf q6 qw qh r1 r2 r3 r4 rf r6 rw rh fl wa wb wc now clk rt st ek en ew 3) (RetD w H fun ds => .agg (svOf ds 0 (grOf (cv9 cn cr cp cdl cps css cv p1 p2 p3 p4 pf p6 pw ph q1 q2 q3 q4 qf q6 qw qh r1 r2 r3 r4 rf r6 rw rh fl wa wb wc now clk rt st)).cls)) := by
 rw [grRight_eq] at hR
 obtain ⟨⟨hc1, hc2⟩, ⟨hpw, hph, _, _⟩, ⟨hqw, hqh, _, _⟩, ⟨hrw, hrh, _, _⟩, ⟨hf, hfl⟩, ⟨ha, hal⟩, ⟨hb, hbl⟩, ⟨hcc, hcl⟩⟩ := hR
 simp only at hpw hph hqw hqh hrw hrh
 have hr : True ∧ True := ⟨trivial, trivial⟩
 refine unroll_sound rfl ?_
 apply exec_sound ctGOk 900
 rw [tick3_go, grOf_eq, cls_tri]
 refine ⟨fun h => (by cases h), fun _ => ret_cells ?_⟩
 repeat' first
 | exact .nil
 | refine .cons ?_ ?_
 | exact rfl
 | exact fun _ => rfl
 | exact lst_ok stands_like
 | exact lst_ok (stands_self (by assumption))
 | exact lst_ok (by rw [D.like_to]; exact stands_like)
 | exact bool_ok (by rw [hr.2, Bool.and_true])
 | fail

theorem tickz_run {w : World} {H : HV} {cn cr cp cdl : Int} {cps css : D} {cv : Bool} {p1 p2 p3 p4 : Int} {pf : Bool} {p6 : Int} {pw ph : D} {q1 q2 q3 q4 : Int} {qf : Bool} {q6 : Int} {qw qh : D} {r1 r2 r3 r4 : Int} {rf : Bool} {r6 : Int} {rw rh : D} {fl wa wb wc : D} {now clk : Int} {rt : Bool} {st : Int} {ek en ew : Int} (hen : ¬Int.tmod en 2 = 1) (hR : GrRight (cv9 cn cr cp cdl cps css cv p1 p2 p3 p4 pf p6 pw ph q1 q2 q3 q4 qf q6 qw qh r1 r2 r3 r4 rf r6 rw rh fl wa wb wc now clk rt st)) :
  Runs Try.prog ⟨w, H⟩ (tickL cn cr cp cdl cps css cv p1 p2 p3 p4 pf p6 pw ph q1 q2 q3 q4 qf q6 qw qh r1 r2 r3 r4 rf r6 rw rh fl wa wb wc now clk rt st ek en ew 0) (RetD w H fun ds => .agg (svOf ds 0 (grOf (cv9 cn cr cp cdl cps css cv p1 p2 p3 p4 pf p6 pw ph q1 q2 q3 q4 qf q6 qw qh r1 r2 r3 r4 rf r6 rw rh fl wa wb wc now clk rt st)).cls)) := by
 rw [grRight_eq] at hR
 obtain ⟨⟨hc1, hc2⟩, ⟨hpw, hph, _, _⟩, ⟨hqw, hqh, _, _⟩, ⟨hrw, hrh, _, _⟩, ⟨hf, hfl⟩, ⟨ha, hal⟩, ⟨hb, hbl⟩, ⟨hcc, hcl⟩⟩ := hR
 simp only at hpw hph hqw hqh hrw hrh
 have hr : True ∧ True := ⟨trivial, trivial⟩
 refine unroll_sound rfl ?_
 apply exec_sound ctGOk 900
 have hen' : decide (Int.tmod en 2 = 1) = false := decide_eq_false hen
 rw [tick0_go, grOf_eq, cls_tri]
 refine ⟨fun _ => ⟨(by decide : (2 : Int) ≠ 0), fun h => absurd (hen'.symm.trans h) (by decide), fun _ => ret_cells ?_⟩, fun h => (by cases h)⟩
 repeat' first
 | exact .nil
 | refine .cons ?_ ?_
 | exact rfl
 | exact fun _ => rfl
 | exact lst_ok stands_like
 | exact lst_ok (stands_self (by assumption))
 | exact lst_ok (by rw [D.like_to]; exact stands_like)
 | exact bool_ok (by rw [hr.2, Bool.and_true])
 | fail

theorem tick2_run {w : World} {H : HV} {cn cr cp cdl : Int} {cps css : D} {cv : Bool} {p1 p2 p3 p4 : Int} {pf : Bool} {p6 : Int} {pw ph : D} {q1 q2 q3 q4 : Int} {qf : Bool} {q6 : Int} {qw qh : D} {r1 r2 r3 r4 : Int} {rf : Bool} {r6 : Int} {rw rh : D} {fl wa wb wc : D} {now clk : Int} {rt : Bool} {st : Int} {ek en ew : Int} (hen : Int.tmod en 2 = 1) (hR : GrRight (cv9 cn cr cp cdl cps css cv p1 p2 p3 p4 pf p6 pw ph q1 q2 q3 q4 qf q6 qw qh r1 r2 r3 r4 rf r6 rw rh fl wa wb wc now clk rt st)) (hr : (relG (grOf (cv9 cn cr cp cdl cps css cv p1 p2 p3 p4 pf p6 pw ph q1 q2 q3 q4 qf q6 qw qh r1 r2 r3 r4 rf r6 rw rh fl wa wb wc now clk rt st)) 2).right = true) :
  Runs Try.prog ⟨w, H⟩ (tickL cn cr cp cdl cps css cv p1 p2 p3 p4 pf p6 pw ph q1 q2 q3 q4 qf q6 qw qh r1 r2 r3 r4 rf r6 rw rh fl wa wb wc now clk rt st ek en ew 2) (RetD w H fun ds => .agg (svOf ds 0 (relG (grOf (cv9 cn cr cp cdl cps css cv p1 p2 p3 p4 pf p6 pw ph q1 q2 q3 q4 qf q6 qw qh r1 r2 r3 r4 rf r6 rw rh fl wa wb wc now clk rt st)) 2).cls)) := by
 have hR0 := hR
 rw [grRight_eq] at hR
 obtain ⟨⟨hc1, hc2⟩, hp, hq, hr', ⟨hf, hfl⟩, ⟨ha, hal⟩, ⟨hb, hbl⟩, ⟨hcc, hcl⟩⟩ := hR
 have hx : (relG (grOf (cv9 cn cr cp cdl cps css cv p1 p2 p3 p4 pf p6 pw ph q1 q2 q3 q4 qf q6 qw qh r1 r2 r3 r4 rf r6 rw rh fl wa wb wc now clk rt st)) 2).right = true := hr
 have hx := (relG_right hx).2
 rw [grOf_eq] at hx
 simp only [tri_0, tri_1, tri_2] at hx
 have hx0 := hr'
 obtain ⟨hxw, hxh, hxl, hxm⟩ := hx0
 simp only at hxw hxh hxl hxm
 obtain ⟨r1', r2', r3'⟩ := relMb_len ⟨r1, r2, r3, r4, rf, r6, rw.to Int, rh.to Int⟩ now
 simp only at r1' r2' r3'
 have k1 := D.Is.length (α := Int) rw
 have k2 := D.Is.length (α := Int) rh
 have k3 := D.Is.length (α := Wr) wc
 refine unroll_sound rfl ?_
 apply exec_sound ctGOk 900
 rw [tick2_go]
 have hen' : decide (Int.tmod en 2 = 1) = true := decide_eq_true hen
 have n3 : (2 : Int) ≠ 0 := by decide
 have nn : (0 : Int) ≤ 2 ∧ (2 : Int) < ((3 : Nat) : Int) := by omega
 refine ⟨fun _ => ⟨n3, fun _ hs => ⟨nn, hr', nn, ⟨hcc, by omega, D.like_is _ _, ?_, ?_⟩, fun hs1 => ?_⟩, fun h => absurd (hen'.symm.trans h) (by decide)⟩, fun h => (by cases h)⟩
 ·rw [like_len]; exact Nat.le_trans r3' (by omega)
 ·rw [D.like_to]; exact hx
 ·have e : grOf (CV.int cn :: CV.int cr :: CV.int cp :: CV.int cdl :: CV.dat cps :: CV.dat css :: CV.bool cv :: CV.int p1 :: CV.int p2 :: CV.int p3 :: CV.int p4 :: CV.bool pf :: CV.int p6 :: CV.dat pw :: CV.dat ph :: CV.int q1 :: CV.int q2 :: CV.int q3 :: CV.int q4 :: CV.bool qf :: CV.int q6 :: CV.dat qw :: CV.dat qh :: CV.int (relMb ⟨r1, r2, r3, r4, rf, r6, rw.to Int, rh.to Int⟩ now).1.round :: CV.int (relMb ⟨r1, r2, r3, r4, rf, r6, rw.to Int, rh.to Int⟩ now).1.position :: CV.int (relMb ⟨r1, r2, r3, r4, rf, r6, rw.to Int, rh.to Int⟩ now).1.thawed :: CV.int (relMb ⟨r1, r2, r3, r4, rf, r6, rw.to Int, rh.to Int⟩ now).1.issued :: CV.bool (relMb ⟨r1, r2, r3, r4, rf, r6, rw.to Int, rh.to Int⟩ now).1.frozen :: CV.int (relMb ⟨r1, r2, r3, r4, rf, r6, rw.to Int, rh.to Int⟩ now).1.upto :: CV.dat ((hs 6 0).like (relMb ⟨r1, r2, r3, r4, rf, r6, rw.to Int, rh.to Int⟩ now).1.waiting) :: CV.dat ((hs 6 1).like (relMb ⟨r1, r2, r3, r4, rf, r6, rw.to Int, rh.to Int⟩ now).1.held) :: CV.dat fl :: CV.dat wa :: CV.dat wb :: CV.dat ((hs1 0 0).like (ackW clk (relMb ⟨r1, r2, r3, r4, rf, r6, rw.to Int, rh.to Int⟩ now).1.frozen (D.to Int ((hs 6 2).like (relMb ⟨r1, r2, r3, r4, rf, r6, rw.to Int, rh.to Int⟩ now).2)) (wc.to Wr)).1) :: CV.int now :: CV.int clk :: CV.bool rt :: CV.int st :: []) = relG (grOf (cv9 cn cr cp cdl cps css cv p1 p2 p3 p4 pf p6 pw ph q1 q2 q3 q4 qf q6 qw qh r1 r2 r3 r4 rf r6 rw rh fl wa wb wc now clk rt st)) 2 := by
   rw [grOf_eq, grOf_eq]
   simp only [relG, ackG, tri_0, tri_1, tri_2, tri_upd0, tri_upd1, tri_upd2, D.like_to, hx, Bool.and_true]
  have hR' : GrRight (CV.int cn :: CV.int cr :: CV.int cp :: CV.int cdl :: CV.dat cps :: CV.dat css :: CV.bool cv :: CV.int p1 :: CV.int p2 :: CV.int p3 :: CV.int p4 :: CV.bool pf :: CV.int p6 :: CV.dat pw :: CV.dat ph :: CV.int q1 :: CV.int q2 :: CV.int q3 :: CV.int q4 :: CV.bool qf :: CV.int q6 :: CV.dat qw :: CV.dat qh :: CV.int (relMb ⟨r1, r2, r3, r4, rf, r6, rw.to Int, rh.to Int⟩ now).1.round :: CV.int (relMb ⟨r1, r2, r3, r4, rf, r6, rw.to Int, rh.to Int⟩ now).1.position :: CV.int (relMb ⟨r1, r2, r3, r4, rf, r6, rw.to Int, rh.to Int⟩ now).1.thawed :: CV.int (relMb ⟨r1, r2, r3, r4, rf, r6, rw.to Int, rh.to Int⟩ now).1.issued :: CV.bool (relMb ⟨r1, r2, r3, r4, rf, r6, rw.to Int, rh.to Int⟩ now).1.frozen :: CV.int (relMb ⟨r1, r2, r3, r4, rf, r6, rw.to Int, rh.to Int⟩ now).1.upto :: CV.dat ((hs 6 0).like (relMb ⟨r1, r2, r3, r4, rf, r6, rw.to Int, rh.to Int⟩ now).1.waiting) :: CV.dat ((hs 6 1).like (relMb ⟨r1, r2, r3, r4, rf, r6, rw.to Int, rh.to Int⟩ now).1.held) :: CV.dat fl :: CV.dat wa :: CV.dat wb :: CV.dat ((hs1 0 0).like (ackW clk (relMb ⟨r1, r2, r3, r4, rf, r6, rw.to Int, rh.to Int⟩ now).1.frozen (D.to Int ((hs 6 2).like (relMb ⟨r1, r2, r3, r4, rf, r6, rw.to Int, rh.to Int⟩ now).2)) (wc.to Wr)).1) :: CV.int now :: CV.int clk :: CV.bool rt :: CV.int st :: []) := by
   rw [grRight_eq]
   refine ⟨⟨hc1, hc2⟩, hp, hq, right_like_of (by omega) (by omega), ⟨hf, hfl⟩, ⟨ha, hal⟩, ⟨hb, hbl⟩, ⟨D.like_is _ _, by rw [like_len, ackW_len]; omega⟩⟩
  have := tick3_run (w := w) (H := H) (ek := ek) (en := en) (ew := ew) (cn := cn) (cr := cr) (cp := cp) (cdl := cdl) (cps := cps) (css := css) (cv := cv) (p1 := p1) (p2 := p2) (p3 := p3) (p4 := p4) (pf := pf) (p6 := p6) (pw := pw) (ph := ph) (q1 := q1) (q2 := q2) (q3 := q3) (q4 := q4) (qf := qf) (q6 := q6) (qw := qw) (qh := qh) (r1 := (relMb ⟨r1, r2, r3, r4, rf, r6, rw.to Int, rh.to Int⟩ now).1.round) (r2 := (relMb ⟨r1, r2, r3, r4, rf, r6, rw.to Int, rh.to Int⟩ now).1.position) (r3 := (relMb ⟨r1, r2, r3, r4, rf, r6, rw.to Int, rh.to Int⟩ now).1.thawed) (r4 := (relMb ⟨r1, r2, r3, r4, rf, r6, rw.to Int, rh.to Int⟩ now).1.issued) (rf := (relMb ⟨r1, r2, r3, r4, rf, r6, rw.to Int, rh.to Int⟩ now).1.frozen) (r6 := (relMb ⟨r1, r2, r3, r4, rf, r6, rw.to Int, rh.to Int⟩ now).1.upto) (rw := ((hs 6 0).like (relMb ⟨r1, r2, r3, r4, rf, r6, rw.to Int, rh.to Int⟩ now).1.waiting)) (rh := ((hs 6 1).like (relMb ⟨r1, r2, r3, r4, rf, r6, rw.to Int, rh.to Int⟩ now).1.held)) (fl := fl) (wa := wa) (wb := wb) (wc := ((hs1 0 0).like (ackW clk (relMb ⟨r1, r2, r3, r4, rf, r6, rw.to Int, rh.to Int⟩ now).1.frozen (D.to Int ((hs 6 2).like (relMb ⟨r1, r2, r3, r4, rf, r6, rw.to Int, rh.to Int⟩ now).2)) (wc.to Wr)).1)) (now := now) (clk := clk) (rt := rt) (st := st) hR'
  rw [e] at this
  exact this

theorem tick1_run {w : World} {H : HV} {cn cr cp cdl : Int} {cps css : D} {cv : Bool} {p1 p2 p3 p4 : Int} {pf : Bool} {p6 : Int} {pw ph : D} {q1 q2 q3 q4 : Int} {qf : Bool} {q6 : Int} {qw qh : D} {r1 r2 r3 r4 : Int} {rf : Bool} {r6 : Int} {rw rh : D} {fl wa wb wc : D} {now clk : Int} {rt : Bool} {st : Int} {ek en ew : Int} (hen : Int.tmod en 2 = 1) (hR : GrRight (cv9 cn cr cp cdl cps css cv p1 p2 p3 p4 pf p6 pw ph q1 q2 q3 q4 qf q6 qw qh r1 r2 r3 r4 rf r6 rw rh fl wa wb wc now clk rt st)) (hr : (relG (relG (grOf (cv9 cn cr cp cdl cps css cv p1 p2 p3 p4 pf p6 pw ph q1 q2 q3 q4 qf q6 qw qh r1 r2 r3 r4 rf r6 rw rh fl wa wb wc now clk rt st)) 1) 2).right = true) :
  Runs Try.prog ⟨w, H⟩ (tickL cn cr cp cdl cps css cv p1 p2 p3 p4 pf p6 pw ph q1 q2 q3 q4 qf q6 qw qh r1 r2 r3 r4 rf r6 rw rh fl wa wb wc now clk rt st ek en ew 1) (RetD w H fun ds => .agg (svOf ds 0 (relG (relG (grOf (cv9 cn cr cp cdl cps css cv p1 p2 p3 p4 pf p6 pw ph q1 q2 q3 q4 qf q6 qw qh r1 r2 r3 r4 rf r6 rw rh fl wa wb wc now clk rt st)) 1) 2).cls)) := by
 have hR0 := hR
 rw [grRight_eq] at hR
 obtain ⟨⟨hc1, hc2⟩, hp, hq, hr', ⟨hf, hfl⟩, ⟨ha, hal⟩, ⟨hb, hbl⟩, ⟨hcc, hcl⟩⟩ := hR
 have hx : (relG (grOf (cv9 cn cr cp cdl cps css cv p1 p2 p3 p4 pf p6 pw ph q1 q2 q3 q4 qf q6 qw qh r1 r2 r3 r4 rf r6 rw rh fl wa wb wc now clk rt st)) 1).right = true := (relG_right hr).1
 have hx := (relG_right hx).2
 rw [grOf_eq] at hx
 simp only [tri_0, tri_1, tri_2] at hx
 have hx0 := hq
 obtain ⟨hxw, hxh, hxl, hxm⟩ := hx0
 simp only at hxw hxh hxl hxm
 obtain ⟨r1', r2', r3'⟩ := relMb_len ⟨q1, q2, q3, q4, qf, q6, qw.to Int, qh.to Int⟩ now
 simp only at r1' r2' r3'
 have k1 := D.Is.length (α := Int) qw
 have k2 := D.Is.length (α := Int) qh
 have k3 := D.Is.length (α := Wr) wb
 refine unroll_sound rfl ?_
 apply exec_sound ctGOk 900
 rw [tick1_go]
 have hen' : decide (Int.tmod en 2 = 1) = true := decide_eq_true hen
 have n3 : (2 : Int) ≠ 0 := by decide
 have nn : (0 : Int) ≤ 1 ∧ (1 : Int) < ((3 : Nat) : Int) := by omega
 refine ⟨fun _ => ⟨n3, fun _ hs => ⟨nn, hq, nn, ⟨hb, by omega, D.like_is _ _, ?_, ?_⟩, fun hs1 => ?_⟩, fun h => absurd (hen'.symm.trans h) (by decide)⟩, fun h => (by cases h)⟩
 ·rw [like_len]; exact Nat.le_trans r3' (by omega)
 ·rw [D.like_to]; exact hx
 ·have e : grOf (CV.int cn :: CV.int cr :: CV.int cp :: CV.int cdl :: CV.dat cps :: CV.dat css :: CV.bool cv :: CV.int p1 :: CV.int p2 :: CV.int p3 :: CV.int p4 :: CV.bool pf :: CV.int p6 :: CV.dat pw :: CV.dat ph :: CV.int (relMb ⟨q1, q2, q3, q4, qf, q6, qw.to Int, qh.to Int⟩ now).1.round :: CV.int (relMb ⟨q1, q2, q3, q4, qf, q6, qw.to Int, qh.to Int⟩ now).1.position :: CV.int (relMb ⟨q1, q2, q3, q4, qf, q6, qw.to Int, qh.to Int⟩ now).1.thawed :: CV.int (relMb ⟨q1, q2, q3, q4, qf, q6, qw.to Int, qh.to Int⟩ now).1.issued :: CV.bool (relMb ⟨q1, q2, q3, q4, qf, q6, qw.to Int, qh.to Int⟩ now).1.frozen :: CV.int (relMb ⟨q1, q2, q3, q4, qf, q6, qw.to Int, qh.to Int⟩ now).1.upto :: CV.dat ((hs 6 0).like (relMb ⟨q1, q2, q3, q4, qf, q6, qw.to Int, qh.to Int⟩ now).1.waiting) :: CV.dat ((hs 6 1).like (relMb ⟨q1, q2, q3, q4, qf, q6, qw.to Int, qh.to Int⟩ now).1.held) :: CV.int r1 :: CV.int r2 :: CV.int r3 :: CV.int r4 :: CV.bool rf :: CV.int r6 :: CV.dat rw :: CV.dat rh :: CV.dat fl :: CV.dat wa :: CV.dat ((hs1 0 0).like (ackW clk (relMb ⟨q1, q2, q3, q4, qf, q6, qw.to Int, qh.to Int⟩ now).1.frozen (D.to Int ((hs 6 2).like (relMb ⟨q1, q2, q3, q4, qf, q6, qw.to Int, qh.to Int⟩ now).2)) (wb.to Wr)).1) :: CV.dat wc :: CV.int now :: CV.int clk :: CV.bool rt :: CV.int st :: []) = relG (grOf (cv9 cn cr cp cdl cps css cv p1 p2 p3 p4 pf p6 pw ph q1 q2 q3 q4 qf q6 qw qh r1 r2 r3 r4 rf r6 rw rh fl wa wb wc now clk rt st)) 1 := by
   rw [grOf_eq, grOf_eq]
   simp only [relG, ackG, tri_0, tri_1, tri_2, tri_upd0, tri_upd1, tri_upd2, D.like_to, hx, Bool.and_true]
  have hR' : GrRight (CV.int cn :: CV.int cr :: CV.int cp :: CV.int cdl :: CV.dat cps :: CV.dat css :: CV.bool cv :: CV.int p1 :: CV.int p2 :: CV.int p3 :: CV.int p4 :: CV.bool pf :: CV.int p6 :: CV.dat pw :: CV.dat ph :: CV.int (relMb ⟨q1, q2, q3, q4, qf, q6, qw.to Int, qh.to Int⟩ now).1.round :: CV.int (relMb ⟨q1, q2, q3, q4, qf, q6, qw.to Int, qh.to Int⟩ now).1.position :: CV.int (relMb ⟨q1, q2, q3, q4, qf, q6, qw.to Int, qh.to Int⟩ now).1.thawed :: CV.int (relMb ⟨q1, q2, q3, q4, qf, q6, qw.to Int, qh.to Int⟩ now).1.issued :: CV.bool (relMb ⟨q1, q2, q3, q4, qf, q6, qw.to Int, qh.to Int⟩ now).1.frozen :: CV.int (relMb ⟨q1, q2, q3, q4, qf, q6, qw.to Int, qh.to Int⟩ now).1.upto :: CV.dat ((hs 6 0).like (relMb ⟨q1, q2, q3, q4, qf, q6, qw.to Int, qh.to Int⟩ now).1.waiting) :: CV.dat ((hs 6 1).like (relMb ⟨q1, q2, q3, q4, qf, q6, qw.to Int, qh.to Int⟩ now).1.held) :: CV.int r1 :: CV.int r2 :: CV.int r3 :: CV.int r4 :: CV.bool rf :: CV.int r6 :: CV.dat rw :: CV.dat rh :: CV.dat fl :: CV.dat wa :: CV.dat ((hs1 0 0).like (ackW clk (relMb ⟨q1, q2, q3, q4, qf, q6, qw.to Int, qh.to Int⟩ now).1.frozen (D.to Int ((hs 6 2).like (relMb ⟨q1, q2, q3, q4, qf, q6, qw.to Int, qh.to Int⟩ now).2)) (wb.to Wr)).1) :: CV.dat wc :: CV.int now :: CV.int clk :: CV.bool rt :: CV.int st :: []) := by
   rw [grRight_eq]
   refine ⟨⟨hc1, hc2⟩, hp, right_like_of (by omega) (by omega), hr', ⟨hf, hfl⟩, ⟨ha, hal⟩, ⟨D.like_is _ _, by rw [like_len, ackW_len]; omega⟩, ⟨hcc, hcl⟩⟩
  have := tick2_run (w := w) (H := H) (ek := ek) (en := en) (ew := ew) (cn := cn) (cr := cr) (cp := cp) (cdl := cdl) (cps := cps) (css := css) (cv := cv) (p1 := p1) (p2 := p2) (p3 := p3) (p4 := p4) (pf := pf) (p6 := p6) (pw := pw) (ph := ph) (q1 := (relMb ⟨q1, q2, q3, q4, qf, q6, qw.to Int, qh.to Int⟩ now).1.round) (q2 := (relMb ⟨q1, q2, q3, q4, qf, q6, qw.to Int, qh.to Int⟩ now).1.position) (q3 := (relMb ⟨q1, q2, q3, q4, qf, q6, qw.to Int, qh.to Int⟩ now).1.thawed) (q4 := (relMb ⟨q1, q2, q3, q4, qf, q6, qw.to Int, qh.to Int⟩ now).1.issued) (qf := (relMb ⟨q1, q2, q3, q4, qf, q6, qw.to Int, qh.to Int⟩ now).1.frozen) (q6 := (relMb ⟨q1, q2, q3, q4, qf, q6, qw.to Int, qh.to Int⟩ now).1.upto) (qw := ((hs 6 0).like (relMb ⟨q1, q2, q3, q4, qf, q6, qw.to Int, qh.to Int⟩ now).1.waiting)) (qh := ((hs 6 1).like (relMb ⟨q1, q2, q3, q4, qf, q6, qw.to Int, qh.to Int⟩ now).1.held)) (r1 := r1) (r2 := r2) (r3 := r3) (r4 := r4) (rf := rf) (r6 := r6) (rw := rw) (rh := rh) (fl := fl) (wa := wa) (wb := ((hs1 0 0).like (ackW clk (relMb ⟨q1, q2, q3, q4, qf, q6, qw.to Int, qh.to Int⟩ now).1.frozen (D.to Int ((hs 6 2).like (relMb ⟨q1, q2, q3, q4, qf, q6, qw.to Int, qh.to Int⟩ now).2)) (wb.to Wr)).1)) (wc := wc) (now := now) (clk := clk) (rt := rt) (st := st) hen hR' (by rw [e]; exact hr)
  rw [e] at this
  exact this

theorem tick0_run {w : World} {H : HV} {cn cr cp cdl : Int} {cps css : D} {cv : Bool} {p1 p2 p3 p4 : Int} {pf : Bool} {p6 : Int} {pw ph : D} {q1 q2 q3 q4 : Int} {qf : Bool} {q6 : Int} {qw qh : D} {r1 r2 r3 r4 : Int} {rf : Bool} {r6 : Int} {rw rh : D} {fl wa wb wc : D} {now clk : Int} {rt : Bool} {st : Int} {ek en ew : Int} (hen : Int.tmod en 2 = 1) (hR : GrRight (cv9 cn cr cp cdl cps css cv p1 p2 p3 p4 pf p6 pw ph q1 q2 q3 q4 qf q6 qw qh r1 r2 r3 r4 rf r6 rw rh fl wa wb wc now clk rt st)) (hr : (relG (relG (relG (grOf (cv9 cn cr cp cdl cps css cv p1 p2 p3 p4 pf p6 pw ph q1 q2 q3 q4 qf q6 qw qh r1 r2 r3 r4 rf r6 rw rh fl wa wb wc now clk rt st)) 0) 1) 2).right = true) :
  Runs Try.prog ⟨w, H⟩ (tickL cn cr cp cdl cps css cv p1 p2 p3 p4 pf p6 pw ph q1 q2 q3 q4 qf q6 qw qh r1 r2 r3 r4 rf r6 rw rh fl wa wb wc now clk rt st ek en ew 0) (RetD w H fun ds => .agg (svOf ds 0 (relG (relG (relG (grOf (cv9 cn cr cp cdl cps css cv p1 p2 p3 p4 pf p6 pw ph q1 q2 q3 q4 qf q6 qw qh r1 r2 r3 r4 rf r6 rw rh fl wa wb wc now clk rt st)) 0) 1) 2).cls)) := by
 have hR0 := hR
 rw [grRight_eq] at hR
 obtain ⟨⟨hc1, hc2⟩, hp, hq, hr', ⟨hf, hfl⟩, ⟨ha, hal⟩, ⟨hb, hbl⟩, ⟨hcc, hcl⟩⟩ := hR
 have hx : (relG (grOf (cv9 cn cr cp cdl cps css cv p1 p2 p3 p4 pf p6 pw ph q1 q2 q3 q4 qf q6 qw qh r1 r2 r3 r4 rf r6 rw rh fl wa wb wc now clk rt st)) 0).right = true := (relG_right (relG_right hr).1).1
 have hx := (relG_right hx).2
 rw [grOf_eq] at hx
 simp only [tri_0, tri_1, tri_2] at hx
 have hx0 := hp
 obtain ⟨hxw, hxh, hxl, hxm⟩ := hx0
 simp only at hxw hxh hxl hxm
 obtain ⟨r1', r2', r3'⟩ := relMb_len ⟨p1, p2, p3, p4, pf, p6, pw.to Int, ph.to Int⟩ now
 simp only at r1' r2' r3'
 have k1 := D.Is.length (α := Int) pw
 have k2 := D.Is.length (α := Int) ph
 have k3 := D.Is.length (α := Wr) wa
 refine unroll_sound rfl ?_
 apply exec_sound ctGOk 900
 rw [tick0_go]
 have hen' : decide (Int.tmod en 2 = 1) = true := decide_eq_true hen
 have n3 : (2 : Int) ≠ 0 := by decide
 have nn : (0 : Int) ≤ 0 ∧ (0 : Int) < ((3 : Nat) : Int) := by omega
 refine ⟨fun _ => ⟨n3, fun _ hs => ⟨nn, hp, nn, ⟨ha, by omega, D.like_is _ _, ?_, ?_⟩, fun hs1 => ?_⟩, fun h => absurd (hen'.symm.trans h) (by decide)⟩, fun h => (by cases h)⟩
 ·rw [like_len]; exact Nat.le_trans r3' (by omega)
 ·rw [D.like_to]; exact hx
 ·have e : grOf (CV.int cn :: CV.int cr :: CV.int cp :: CV.int cdl :: CV.dat cps :: CV.dat css :: CV.bool cv :: CV.int (relMb ⟨p1, p2, p3, p4, pf, p6, pw.to Int, ph.to Int⟩ now).1.round :: CV.int (relMb ⟨p1, p2, p3, p4, pf, p6, pw.to Int, ph.to Int⟩ now).1.position :: CV.int (relMb ⟨p1, p2, p3, p4, pf, p6, pw.to Int, ph.to Int⟩ now).1.thawed :: CV.int (relMb ⟨p1, p2, p3, p4, pf, p6, pw.to Int, ph.to Int⟩ now).1.issued :: CV.bool (relMb ⟨p1, p2, p3, p4, pf, p6, pw.to Int, ph.to Int⟩ now).1.frozen :: CV.int (relMb ⟨p1, p2, p3, p4, pf, p6, pw.to Int, ph.to Int⟩ now).1.upto :: CV.dat ((hs 6 0).like (relMb ⟨p1, p2, p3, p4, pf, p6, pw.to Int, ph.to Int⟩ now).1.waiting) :: CV.dat ((hs 6 1).like (relMb ⟨p1, p2, p3, p4, pf, p6, pw.to Int, ph.to Int⟩ now).1.held) :: CV.int q1 :: CV.int q2 :: CV.int q3 :: CV.int q4 :: CV.bool qf :: CV.int q6 :: CV.dat qw :: CV.dat qh :: CV.int r1 :: CV.int r2 :: CV.int r3 :: CV.int r4 :: CV.bool rf :: CV.int r6 :: CV.dat rw :: CV.dat rh :: CV.dat fl :: CV.dat ((hs1 0 0).like (ackW clk (relMb ⟨p1, p2, p3, p4, pf, p6, pw.to Int, ph.to Int⟩ now).1.frozen (D.to Int ((hs 6 2).like (relMb ⟨p1, p2, p3, p4, pf, p6, pw.to Int, ph.to Int⟩ now).2)) (wa.to Wr)).1) :: CV.dat wb :: CV.dat wc :: CV.int now :: CV.int clk :: CV.bool rt :: CV.int st :: []) = relG (grOf (cv9 cn cr cp cdl cps css cv p1 p2 p3 p4 pf p6 pw ph q1 q2 q3 q4 qf q6 qw qh r1 r2 r3 r4 rf r6 rw rh fl wa wb wc now clk rt st)) 0 := by
   rw [grOf_eq, grOf_eq]
   simp only [relG, ackG, tri_0, tri_1, tri_2, tri_upd0, tri_upd1, tri_upd2, D.like_to, hx, Bool.and_true]
  have hR' : GrRight (CV.int cn :: CV.int cr :: CV.int cp :: CV.int cdl :: CV.dat cps :: CV.dat css :: CV.bool cv :: CV.int (relMb ⟨p1, p2, p3, p4, pf, p6, pw.to Int, ph.to Int⟩ now).1.round :: CV.int (relMb ⟨p1, p2, p3, p4, pf, p6, pw.to Int, ph.to Int⟩ now).1.position :: CV.int (relMb ⟨p1, p2, p3, p4, pf, p6, pw.to Int, ph.to Int⟩ now).1.thawed :: CV.int (relMb ⟨p1, p2, p3, p4, pf, p6, pw.to Int, ph.to Int⟩ now).1.issued :: CV.bool (relMb ⟨p1, p2, p3, p4, pf, p6, pw.to Int, ph.to Int⟩ now).1.frozen :: CV.int (relMb ⟨p1, p2, p3, p4, pf, p6, pw.to Int, ph.to Int⟩ now).1.upto :: CV.dat ((hs 6 0).like (relMb ⟨p1, p2, p3, p4, pf, p6, pw.to Int, ph.to Int⟩ now).1.waiting) :: CV.dat ((hs 6 1).like (relMb ⟨p1, p2, p3, p4, pf, p6, pw.to Int, ph.to Int⟩ now).1.held) :: CV.int q1 :: CV.int q2 :: CV.int q3 :: CV.int q4 :: CV.bool qf :: CV.int q6 :: CV.dat qw :: CV.dat qh :: CV.int r1 :: CV.int r2 :: CV.int r3 :: CV.int r4 :: CV.bool rf :: CV.int r6 :: CV.dat rw :: CV.dat rh :: CV.dat fl :: CV.dat ((hs1 0 0).like (ackW clk (relMb ⟨p1, p2, p3, p4, pf, p6, pw.to Int, ph.to Int⟩ now).1.frozen (D.to Int ((hs 6 2).like (relMb ⟨p1, p2, p3, p4, pf, p6, pw.to Int, ph.to Int⟩ now).2)) (wa.to Wr)).1) :: CV.dat wb :: CV.dat wc :: CV.int now :: CV.int clk :: CV.bool rt :: CV.int st :: []) := by
   rw [grRight_eq]
   refine ⟨⟨hc1, hc2⟩, right_like_of (by omega) (by omega), hq, hr', ⟨hf, hfl⟩, ⟨D.like_is _ _, by rw [like_len, ackW_len]; omega⟩, ⟨hb, hbl⟩, ⟨hcc, hcl⟩⟩
  have := tick1_run (w := w) (H := H) (ek := ek) (en := en) (ew := ew) (cn := cn) (cr := cr) (cp := cp) (cdl := cdl) (cps := cps) (css := css) (cv := cv) (p1 := (relMb ⟨p1, p2, p3, p4, pf, p6, pw.to Int, ph.to Int⟩ now).1.round) (p2 := (relMb ⟨p1, p2, p3, p4, pf, p6, pw.to Int, ph.to Int⟩ now).1.position) (p3 := (relMb ⟨p1, p2, p3, p4, pf, p6, pw.to Int, ph.to Int⟩ now).1.thawed) (p4 := (relMb ⟨p1, p2, p3, p4, pf, p6, pw.to Int, ph.to Int⟩ now).1.issued) (pf := (relMb ⟨p1, p2, p3, p4, pf, p6, pw.to Int, ph.to Int⟩ now).1.frozen) (p6 := (relMb ⟨p1, p2, p3, p4, pf, p6, pw.to Int, ph.to Int⟩ now).1.upto) (pw := ((hs 6 0).like (relMb ⟨p1, p2, p3, p4, pf, p6, pw.to Int, ph.to Int⟩ now).1.waiting)) (ph := ((hs 6 1).like (relMb ⟨p1, p2, p3, p4, pf, p6, pw.to Int, ph.to Int⟩ now).1.held)) (q1 := q1) (q2 := q2) (q3 := q3) (q4 := q4) (qf := qf) (q6 := q6) (qw := qw) (qh := qh) (r1 := r1) (r2 := r2) (r3 := r3) (r4 := r4) (rf := rf) (r6 := r6) (rw := rw) (rh := rh) (fl := fl) (wa := ((hs1 0 0).like (ackW clk (relMb ⟨p1, p2, p3, p4, pf, p6, pw.to Int, ph.to Int⟩ now).1.frozen (D.to Int ((hs 6 2).like (relMb ⟨p1, p2, p3, p4, pf, p6, pw.to Int, ph.to Int⟩ now).2)) (wa.to Wr)).1)) (wb := wb) (wc := wc) (now := now) (clk := clk) (rt := rt) (st := st) hen hR' (by rw [e]; exact hr)
  rw [e] at this
  exact this

theorem tick_ent {w : World} {H : HV} {cn cr cp cdl : Int} {cps css : D} {cv : Bool} {p1 p2 p3 p4 : Int} {pf : Bool} {p6 : Int} {pw ph : D} {q1 q2 q3 q4 : Int} {qf : Bool} {q6 : Int} {qw qh : D} {r1 r2 r3 r4 : Int} {rf : Bool} {r6 : Int} {rw rh : D} {fl wa wb wc : D} {now clk : Int} {rt : Bool} {st : Int} {ek en ew : Int} (hn : U8 en) (hw : U8 ew) (hfl2 : (grOf (cv9 cn cr cp cdl cps css cv p1 p2 p3 p4 pf p6 pw ph q1 q2 q3 q4 qf q6 qw qh r1 r2 r3 r4 rf r6 rw rh fl wa wb wc now clk rt st)).flight.length ≤ 999000) (hR : GrRight (cv9 cn cr cp cdl cps css cv p1 p2 p3 p4 pf p6 pw ph q1 q2 q3 q4 qf q6 qw qh r1 r2 r3 r4 rf r6 rw rh fl wa wb wc now clk rt st)) (hr : (tickG (grOf (cv9 cn cr cp cdl cps css cv p1 p2 p3 p4 pf p6 pw ph q1 q2 q3 q4 qf q6 qw qh r1 r2 r3 r4 rf r6 rw rh fl wa wb wc now clk rt st)) en ew).right = true) :
  Runs Try.prog ⟨w, H⟩ (entry Try.prog 47 [.agg (cl9 cn cr cp cdl cps css cv p1 p2 p3 p4 pf p6 pw ph q1 q2 q3 q4 qf q6 qw qh r1 r2 r3 r4 rf r6 rw rh fl wa wb wc now clk rt st), .agg [.int .u8 ek, .int .u8 en, .int .u8 ew]]) (RetD w H fun ds => .agg (svOf ds 0 (tickG (grOf (cv9 cn cr cp cdl cps css cv p1 p2 p3 p4 pf p6 pw ph q1 q2 q3 q4 qf q6 qw qh r1 r2 r3 r4 rf r6 rw rh fl wa wb wc now clk rt st)) en ew).cls)) := by
 have hR0 := hR
 rw [grRight_eq] at hR
 obtain ⟨⟨hc1, hc2⟩, hp, hq, hr', ⟨hf, hfl⟩, ⟨ha, hal⟩, ⟨hb, hbl⟩, ⟨hcc, hcl⟩⟩ := hR
 have kf := D.Is.length (α := Msg) fl
 rw [grOf_eq] at hfl2
 simp only at hfl2
 apply exec_sound ctGOk 900
 rw [tick_in]
 have e1 : IntKind.i64.wrap ew = ew := wrap64 (by have := hw.1; omega) (by have := hw.2; omega)
 have e2 : IntKind.i64.wrap (1 + Int.tmod ew 5) = 1 + Int.tmod ew 5 := by
  have h0 : 0 ≤ Int.tmod ew 5 := Int.tmod_nonneg _ hw.1
  have h1 : Int.tmod ew 5 < 5 := Int.tmod_lt_of_pos _ (by decide)
  exact wrap64 (by omega) (by omega)
 simp only [e1, e2]
 obtain ⟨x1, x2, x3, x4⟩ := expireCo_len ⟨cn, cr, cp, cdl, cps.to Int, css.to Bool, cv⟩ (IntKind.i64.wrap (now + (1 + Int.tmod ew 5)))
 simp only at x1 x2 x3
 refine ⟨(by decide : (5 : Int) ≠ 0), ⟨hc1, hc2⟩, fun hs => ⟨⟨hf, by omega, D.like_is _ _, ?_⟩, fun hs1 => ?_⟩⟩
 ·rw [like_len]; exact Nat.le_trans x3 (by omega)
 ·have e : grOf (CV.int (expireCo ⟨cn, cr, cp, cdl, cps.to Int, css.to Bool, cv⟩ (IntKind.i64.wrap (now + (1 + Int.tmod ew 5)))).1.nodes :: CV.int (expireCo ⟨cn, cr, cp, cdl, cps.to Int, css.to Bool, cv⟩ (IntKind.i64.wrap (now + (1 + Int.tmod ew 5)))).1.round :: CV.int (expireCo ⟨cn, cr, cp, cdl, cps.to Int, css.to Bool, cv⟩ (IntKind.i64.wrap (now + (1 + Int.tmod ew 5)))).1.phase :: CV.int (expireCo ⟨cn, cr, cp, cdl, cps.to Int, css.to Bool, cv⟩ (IntKind.i64.wrap (now + (1 + Int.tmod ew 5)))).1.deadline :: CV.dat ((hs 0 0).like (expireCo ⟨cn, cr, cp, cdl, cps.to Int, css.to Bool, cv⟩ (IntKind.i64.wrap (now + (1 + Int.tmod ew 5)))).1.positions) :: CV.dat ((hs 0 1).like (expireCo ⟨cn, cr, cp, cdl, cps.to Int, css.to Bool, cv⟩ (IntKind.i64.wrap (now + (1 + Int.tmod ew 5)))).1.seen) :: CV.bool (expireCo ⟨cn, cr, cp, cdl, cps.to Int, css.to Bool, cv⟩ (IntKind.i64.wrap (now + (1 + Int.tmod ew 5)))).1.valid :: CV.int p1 :: CV.int p2 :: CV.int p3 :: CV.int p4 :: CV.bool pf :: CV.int p6 :: CV.dat pw :: CV.dat ph :: CV.int q1 :: CV.int q2 :: CV.int q3 :: CV.int q4 :: CV.bool qf :: CV.int q6 :: CV.dat qw :: CV.dat qh :: CV.int r1 :: CV.int r2 :: CV.int r3 :: CV.int r4 :: CV.bool rf :: CV.int r6 :: CV.dat rw :: CV.dat rh :: CV.dat ((hs1 0 0).like (fl.to Msg ++ D.to Msg ((hs 0 2).like (expireCo ⟨cn, cr, cp, cdl, cps.to Int, css.to Bool, cv⟩ (IntKind.i64.wrap (now + (1 + Int.tmod ew 5)))).2))) :: CV.dat wa :: CV.dat wb :: CV.dat wc :: CV.int (IntKind.i64.wrap (now + (1 + Int.tmod ew 5))) :: CV.int clk :: CV.bool rt :: CV.int st :: []) = sendG { (grOf (cv9 cn cr cp cdl cps css cv p1 p2 p3 p4 pf p6 pw ph q1 q2 q3 q4 qf q6 qw qh r1 r2 r3 r4 rf r6 rw rh fl wa wb wc now clk rt st)) with now := (IntKind.i64.wrap (now + (1 + Int.tmod ew 5))), c := (expireCo (grOf (cv9 cn cr cp cdl cps css cv p1 p2 p3 p4 pf p6 pw ph q1 q2 q3 q4 qf q6 qw qh r1 r2 r3 r4 rf r6 rw rh fl wa wb wc now clk rt st)).c (IntKind.i64.wrap (now + (1 + Int.tmod ew 5)))).1 } (expireCo (grOf (cv9 cn cr cp cdl cps css cv p1 p2 p3 p4 pf p6 pw ph q1 q2 q3 q4 qf q6 qw qh r1 r2 r3 r4 rf r6 rw rh fl wa wb wc now clk rt st)).c (IntKind.i64.wrap (now + (1 + Int.tmod ew 5)))).2 := by
   rw [grOf_eq, grOf_eq]
   simp only [sendG, D.like_to]
  have hR' : GrRight (CV.int (expireCo ⟨cn, cr, cp, cdl, cps.to Int, css.to Bool, cv⟩ (IntKind.i64.wrap (now + (1 + Int.tmod ew 5)))).1.nodes :: CV.int (expireCo ⟨cn, cr, cp, cdl, cps.to Int, css.to Bool, cv⟩ (IntKind.i64.wrap (now + (1 + Int.tmod ew 5)))).1.round :: CV.int (expireCo ⟨cn, cr, cp, cdl, cps.to Int, css.to Bool, cv⟩ (IntKind.i64.wrap (now + (1 + Int.tmod ew 5)))).1.phase :: CV.int (expireCo ⟨cn, cr, cp, cdl, cps.to Int, css.to Bool, cv⟩ (IntKind.i64.wrap (now + (1 + Int.tmod ew 5)))).1.deadline :: CV.dat ((hs 0 0).like (expireCo ⟨cn, cr, cp, cdl, cps.to Int, css.to Bool, cv⟩ (IntKind.i64.wrap (now + (1 + Int.tmod ew 5)))).1.positions) :: CV.dat ((hs 0 1).like (expireCo ⟨cn, cr, cp, cdl, cps.to Int, css.to Bool, cv⟩ (IntKind.i64.wrap (now + (1 + Int.tmod ew 5)))).1.seen) :: CV.bool (expireCo ⟨cn, cr, cp, cdl, cps.to Int, css.to Bool, cv⟩ (IntKind.i64.wrap (now + (1 + Int.tmod ew 5)))).1.valid :: CV.int p1 :: CV.int p2 :: CV.int p3 :: CV.int p4 :: CV.bool pf :: CV.int p6 :: CV.dat pw :: CV.dat ph :: CV.int q1 :: CV.int q2 :: CV.int q3 :: CV.int q4 :: CV.bool qf :: CV.int q6 :: CV.dat qw :: CV.dat qh :: CV.int r1 :: CV.int r2 :: CV.int r3 :: CV.int r4 :: CV.bool rf :: CV.int r6 :: CV.dat rw :: CV.dat rh :: CV.dat ((hs1 0 0).like (fl.to Msg ++ D.to Msg ((hs 0 2).like (expireCo ⟨cn, cr, cp, cdl, cps.to Int, css.to Bool, cv⟩ (IntKind.i64.wrap (now + (1 + Int.tmod ew 5)))).2))) :: CV.dat wa :: CV.dat wb :: CV.dat wc :: CV.int (IntKind.i64.wrap (now + (1 + Int.tmod ew 5))) :: CV.int clk :: CV.bool rt :: CV.int st :: []) := by
   rw [grRight_eq]
   refine ⟨⟨D.like_is _ _, D.like_is _ _⟩, hp, hq, hr', ⟨D.like_is _ _, ?_⟩, ⟨ha, hal⟩, ⟨hb, hbl⟩, ⟨hcc, hcl⟩⟩
   rw [like_len, List.length_append, D.like_to]; omega
  by_cases hen : Int.tmod en 2 = 1
  ·have et : tickG (grOf (cv9 cn cr cp cdl cps css cv p1 p2 p3 p4 pf p6 pw ph q1 q2 q3 q4 qf q6 qw qh r1 r2 r3 r4 rf r6 rw rh fl wa wb wc now clk rt st)) en ew = (relG (relG (relG (grOf (CV.int (expireCo ⟨cn, cr, cp, cdl, cps.to Int, css.to Bool, cv⟩ (IntKind.i64.wrap (now + (1 + Int.tmod ew 5)))).1.nodes :: CV.int (expireCo ⟨cn, cr, cp, cdl, cps.to Int, css.to Bool, cv⟩ (IntKind.i64.wrap (now + (1 + Int.tmod ew 5)))).1.round :: CV.int (expireCo ⟨cn, cr, cp, cdl, cps.to Int, css.to Bool, cv⟩ (IntKind.i64.wrap (now + (1 + Int.tmod ew 5)))).1.phase :: CV.int (expireCo ⟨cn, cr, cp, cdl, cps.to Int, css.to Bool, cv⟩ (IntKind.i64.wrap (now + (1 + Int.tmod ew 5)))).1.deadline :: CV.dat ((hs 0 0).like (expireCo ⟨cn, cr, cp, cdl, cps.to Int, css.to Bool, cv⟩ (IntKind.i64.wrap (now + (1 + Int.tmod ew 5)))).1.positions) :: CV.dat ((hs 0 1).like (expireCo ⟨cn, cr, cp, cdl, cps.to Int, css.to Bool, cv⟩ (IntKind.i64.wrap (now + (1 + Int.tmod ew 5)))).1.seen) :: CV.bool (expireCo ⟨cn, cr, cp, cdl, cps.to Int, css.to Bool, cv⟩ (IntKind.i64.wrap (now + (1 + Int.tmod ew 5)))).1.valid :: CV.int p1 :: CV.int p2 :: CV.int p3 :: CV.int p4 :: CV.bool pf :: CV.int p6 :: CV.dat pw :: CV.dat ph :: CV.int q1 :: CV.int q2 :: CV.int q3 :: CV.int q4 :: CV.bool qf :: CV.int q6 :: CV.dat qw :: CV.dat qh :: CV.int r1 :: CV.int r2 :: CV.int r3 :: CV.int r4 :: CV.bool rf :: CV.int r6 :: CV.dat rw :: CV.dat rh :: CV.dat ((hs1 0 0).like (fl.to Msg ++ D.to Msg ((hs 0 2).like (expireCo ⟨cn, cr, cp, cdl, cps.to Int, css.to Bool, cv⟩ (IntKind.i64.wrap (now + (1 + Int.tmod ew 5)))).2))) :: CV.dat wa :: CV.dat wb :: CV.dat wc :: CV.int (IntKind.i64.wrap (now + (1 + Int.tmod ew 5))) :: CV.int clk :: CV.bool rt :: CV.int st :: [])) 0) 1) 2) := by
    rw [e, tickG]; simp only [hen, if_true]; rfl
   rw [et] at hr ⊢
   have := tick0_run (w := w) (H := H) (ek := ek) (en := en) (ew := ew) (cn := (expireCo ⟨cn, cr, cp, cdl, cps.to Int, css.to Bool, cv⟩ (IntKind.i64.wrap (now + (1 + Int.tmod ew 5)))).1.nodes) (cr := (expireCo ⟨cn, cr, cp, cdl, cps.to Int, css.to Bool, cv⟩ (IntKind.i64.wrap (now + (1 + Int.tmod ew 5)))).1.round) (cp := (expireCo ⟨cn, cr, cp, cdl, cps.to Int, css.to Bool, cv⟩ (IntKind.i64.wrap (now + (1 + Int.tmod ew 5)))).1.phase) (cdl := (expireCo ⟨cn, cr, cp, cdl, cps.to Int, css.to Bool, cv⟩ (IntKind.i64.wrap (now + (1 + Int.tmod ew 5)))).1.deadline) (cps := ((hs 0 0).like (expireCo ⟨cn, cr, cp, cdl, cps.to Int, css.to Bool, cv⟩ (IntKind.i64.wrap (now + (1 + Int.tmod ew 5)))).1.positions)) (css := ((hs 0 1).like (expireCo ⟨cn, cr, cp, cdl, cps.to Int, css.to Bool, cv⟩ (IntKind.i64.wrap (now + (1 + Int.tmod ew 5)))).1.seen)) (cv := (expireCo ⟨cn, cr, cp, cdl, cps.to Int, css.to Bool, cv⟩ (IntKind.i64.wrap (now + (1 + Int.tmod ew 5)))).1.valid) (p1 := p1) (p2 := p2) (p3 := p3) (p4 := p4) (pf := pf) (p6 := p6) (pw := pw) (ph := ph) (q1 := q1) (q2 := q2) (q3 := q3) (q4 := q4) (qf := qf) (q6 := q6) (qw := qw) (qh := qh) (r1 := r1) (r2 := r2) (r3 := r3) (r4 := r4) (rf := rf) (r6 := r6) (rw := rw) (rh := rh) (fl := ((hs1 0 0).like (fl.to Msg ++ D.to Msg ((hs 0 2).like (expireCo ⟨cn, cr, cp, cdl, cps.to Int, css.to Bool, cv⟩ (IntKind.i64.wrap (now + (1 + Int.tmod ew 5)))).2)))) (wa := wa) (wb := wb) (wc := wc) (now := (IntKind.i64.wrap (now + (1 + Int.tmod ew 5)))) (clk := clk) (rt := rt) (st := st) hen hR' hr
   exact this
  ·have et : tickG (grOf (cv9 cn cr cp cdl cps css cv p1 p2 p3 p4 pf p6 pw ph q1 q2 q3 q4 qf q6 qw qh r1 r2 r3 r4 rf r6 rw rh fl wa wb wc now clk rt st)) en ew = grOf (CV.int (expireCo ⟨cn, cr, cp, cdl, cps.to Int, css.to Bool, cv⟩ (IntKind.i64.wrap (now + (1 + Int.tmod ew 5)))).1.nodes :: CV.int (expireCo ⟨cn, cr, cp, cdl, cps.to Int, css.to Bool, cv⟩ (IntKind.i64.wrap (now + (1 + Int.tmod ew 5)))).1.round :: CV.int (expireCo ⟨cn, cr, cp, cdl, cps.to Int, css.to Bool, cv⟩ (IntKind.i64.wrap (now + (1 + Int.tmod ew 5)))).1.phase :: CV.int (expireCo ⟨cn, cr, cp, cdl, cps.to Int, css.to Bool, cv⟩ (IntKind.i64.wrap (now + (1 + Int.tmod ew 5)))).1.deadline :: CV.dat ((hs 0 0).like (expireCo ⟨cn, cr, cp, cdl, cps.to Int, css.to Bool, cv⟩ (IntKind.i64.wrap (now + (1 + Int.tmod ew 5)))).1.positions) :: CV.dat ((hs 0 1).like (expireCo ⟨cn, cr, cp, cdl, cps.to Int, css.to Bool, cv⟩ (IntKind.i64.wrap (now + (1 + Int.tmod ew 5)))).1.seen) :: CV.bool (expireCo ⟨cn, cr, cp, cdl, cps.to Int, css.to Bool, cv⟩ (IntKind.i64.wrap (now + (1 + Int.tmod ew 5)))).1.valid :: CV.int p1 :: CV.int p2 :: CV.int p3 :: CV.int p4 :: CV.bool pf :: CV.int p6 :: CV.dat pw :: CV.dat ph :: CV.int q1 :: CV.int q2 :: CV.int q3 :: CV.int q4 :: CV.bool qf :: CV.int q6 :: CV.dat qw :: CV.dat qh :: CV.int r1 :: CV.int r2 :: CV.int r3 :: CV.int r4 :: CV.bool rf :: CV.int r6 :: CV.dat rw :: CV.dat rh :: CV.dat ((hs1 0 0).like (fl.to Msg ++ D.to Msg ((hs 0 2).like (expireCo ⟨cn, cr, cp, cdl, cps.to Int, css.to Bool, cv⟩ (IntKind.i64.wrap (now + (1 + Int.tmod ew 5)))).2))) :: CV.dat wa :: CV.dat wb :: CV.dat wc :: CV.int (IntKind.i64.wrap (now + (1 + Int.tmod ew 5))) :: CV.int clk :: CV.bool rt :: CV.int st :: []) := by
    rw [e, tickG]; simp only [hen, if_false]; rfl
   rw [et]
   have := tickz_run (w := w) (H := H) (ek := ek) (en := en) (ew := ew) (cn := (expireCo ⟨cn, cr, cp, cdl, cps.to Int, css.to Bool, cv⟩ (IntKind.i64.wrap (now + (1 + Int.tmod ew 5)))).1.nodes) (cr := (expireCo ⟨cn, cr, cp, cdl, cps.to Int, css.to Bool, cv⟩ (IntKind.i64.wrap (now + (1 + Int.tmod ew 5)))).1.round) (cp := (expireCo ⟨cn, cr, cp, cdl, cps.to Int, css.to Bool, cv⟩ (IntKind.i64.wrap (now + (1 + Int.tmod ew 5)))).1.phase) (cdl := (expireCo ⟨cn, cr, cp, cdl, cps.to Int, css.to Bool, cv⟩ (IntKind.i64.wrap (now + (1 + Int.tmod ew 5)))).1.deadline) (cps := ((hs 0 0).like (expireCo ⟨cn, cr, cp, cdl, cps.to Int, css.to Bool, cv⟩ (IntKind.i64.wrap (now + (1 + Int.tmod ew 5)))).1.positions)) (css := ((hs 0 1).like (expireCo ⟨cn, cr, cp, cdl, cps.to Int, css.to Bool, cv⟩ (IntKind.i64.wrap (now + (1 + Int.tmod ew 5)))).1.seen)) (cv := (expireCo ⟨cn, cr, cp, cdl, cps.to Int, css.to Bool, cv⟩ (IntKind.i64.wrap (now + (1 + Int.tmod ew 5)))).1.valid) (p1 := p1) (p2 := p2) (p3 := p3) (p4 := p4) (pf := pf) (p6 := p6) (pw := pw) (ph := ph) (q1 := q1) (q2 := q2) (q3 := q3) (q4 := q4) (qf := qf) (q6 := q6) (qw := qw) (qh := qh) (r1 := r1) (r2 := r2) (r3 := r3) (r4 := r4) (rf := rf) (r6 := r6) (rw := rw) (rh := rh) (fl := ((hs1 0 0).like (fl.to Msg ++ D.to Msg ((hs 0 2).like (expireCo ⟨cn, cr, cp, cdl, cps.to Int, css.to Bool, cv⟩ (IntKind.i64.wrap (now + (1 + Int.tmod ew 5)))).2)))) (wa := wa) (wb := wb) (wc := wc) (now := (IntKind.i64.wrap (now + (1 + Int.tmod ew 5)))) (clk := clk) (rt := rt) (st := st) hen hR'
   exact this

theorem lawTick : Law Try.prog 47 (((rdCells grK).two rdEv).sp spTick) := by
 refine law_in _ (by kernel_rfl) fun H w ⟨⟨cs, hsh⟩, ek, en, ew⟩ hok => ?_
 obtain ⟨cn, cr, cp, cdl, cps, css, cv, p1, p2, p3, p4, pf, p6, pw, ph, q1, q2, q3, q4, qf, q6, qw, qh, r1, r2, r3, r4, rf, r6, rw, rh, fl, wa, wb, wc, now, clk, rt, st, rfl⟩ := gr_shape hsh
 intro hp
 obtain ⟨h1, ⟨⟨h2, h3⟩, h4⟩, h5⟩ := hp _ (List.mem_singleton.2 rfl)
 exact tick_ent h2 h3 h4 h1 h5
end Go.Proofs.Ytoechplbhbalaaa
end
section
open Go Go.Proofs Sx
namespace Go.Proofs.Ytoechplbhbalaaa
set_option maxRecDepth 100000
set_option maxHeartbeats 0
noncomputable def recvL (cn cr cp cdl : Int) (cps css : D) (cv : Bool) (p1 p2 p3 p4 : Int) (pf : Bool) (p6 : Int) (pw ph : D) (q1 q2 q3 q4 : Int) (qf : Bool) (q6 : Int) (qw qh : D) (r1 r2 r3 r4 : Int) (rf : Bool) (r6 : Int) (rw rh : D) (fl wa wb wc : D) (now clk : Int) (rt : Bool) (st : Int) (mk mf mto mn mv me : Int) (ml mb : D) : Conf := Conf.mk (SFrm.mk 79 none none [Item.code (cAt Try.prog 79 [1, 1, 1, 0]), Item.code (cAt Try.prog 79 [1, 1, 1, 1])] (mkJ 0 [(2, .ptr 0 0), (3, .ptr 1 0), (4, .ptr 2 0)] 0 62)) []
 [(0, .cells 97 (cl9 cn cr cp cdl cps css cv p1 p2 p3 p4 pf p6 pw ph q1 q2 q3 q4 qf q6 qw qh r1 r2 r3 r4 rf r6 rw rh fl wa wb wc now clk rt st)), (1, .cells 50 [.int .i64 mk, .int .i64 mf, .int .i64 mto, .int .i64 mn, .int .i64 mv, .int .i64 me, .dat ml, .dat mb]), (2, .cells 97 grZero)]
section
variable (cn cr cp cdl : Int) (cps css : D) (cv : Bool) (p1 p2 p3 p4 : Int) (pf : Bool) (p6 : Int) (pw ph : D) (q1 q2 q3 q4 : Int) (qf : Bool) (q6 : Int) (qw qh : D) (r1 r2 r3 r4 : Int) (rf : Bool) (r6 : Int) (rw rh : D) (fl wa wb wc : D) (now clk : Int) (rt : Bool) (st : Int) (mk mf mto mn mv me : Int) (ml mb : D)
theorem recv_in : 
 let z1 := (collectCo (CoD.co (CoD.mk cn cr cp cdl cps css cv)) now (MsgD.msg (MsgD.mk mk mf mto mn mv me ml mb)))
 let z2 : Tree := (.ret (.agg [.int .i64 cn, .int .i64 cr, .int .i64 cp, .int .i64 cdl, .dat cps, .dat css, .bool cv, .int .i64 p1, .int .i64 p2, .int .i64 p3, .int .i64 p4, .bool pf, .int .i64 p6, .dat pw, .dat ph, .int .i64 q1, .int .i64 q2, .int .i64 q3, .int .i64 q4, .bool qf, .int .i64 q6, .dat qw, .dat qh, .int .i64 r1, .int .i64 r2, .int .i64 r3, .int .i64 r4, .bool rf, .int .i64 r6, .dat rw, .dat rh, .dat fl, .dat wa, .dat wb, .dat wc, .int .i64 now, .int .i64 clk, .lb false, .int .i64 st]))
 goS Try.prog ctG (fun _ => false) [(79, 38)] 900 (entry Try.prog 79 [.agg (cl9 cn cr cp cdl cps css cv p1 p2 p3 p4 pf p6 pw ph q1 q2 q3 q4 qf q6 qw qh r1 r2 r3 r4 rf r6 rw rh fl wa wb wc now clk rt st), .agg [.int .i64 mk, .int .i64 mf, .int .i64 mto, .int .i64 mn, .int .i64 mv, .int .i64 me, .dat ml, .dat mb]]) =
 Tree.br (decide (mto = 3)) (.need (D.Is Int cps ∧ D.Is Bool css) (.all fun hs => .need (D.Is Msg fl ∧ D.len fl ≤ 1048576 ∧ D.Is Msg (D.like (hs 0 2) (Prod.snd z1)) ∧ D.len (D.like (hs 0 2) (Prod.snd z1)) ≤ 1048576)
 (.all fun hs_1 => .ret (.agg [.int .i64 (Co.nodes (Prod.fst z1)), .int .i64 (Co.round (Prod.fst z1)), .int .i64 (Co.phase (Prod.fst z1)), .int .i64 (Co.deadline (Prod.fst z1)), .dat (D.like (hs 0 0) (Co.positions
 (Prod.fst z1))), .dat (D.like (hs 0 1) (Co.seen (Prod.fst z1))), .bool (Co.valid (Prod.fst z1)), .int .i64 p1, .int .i64 p2, .int .i64 p3, .int .i64 p4, .bool pf, .int .i64 p6, .dat pw, .dat ph, .int .i64 q1, .int .i64 q2, .int .i64 q3, .int .i64 q4, .bool qf, .int .i64 q6, .dat qw, .dat qh, .int .i64 r1, .int .i64 r2, .int .i64 r3, .int .i64 r4, .bool rf, .int .i64 r6, .dat rw, .dat rh, .dat
 (D.like (hs_1 0 0) (List.append (D.to Msg fl) (D.to Msg (D.like (hs 0 2) (Prod.snd z1))))), .dat wa, .dat wb, .dat wc, .int .i64 now, .int .i64 clk, .bool rt, .int .i64 st])))) (.br (decide (mto < 0)) z2
 (.br (decide (mto > 3)) z2 (.leaf (Conf.mk (SFrm.mk 79 none none [Item.code (cAt Try.prog 79 [1, 1, 1, 0]), Item.code (cAt Try.prog 79 [1, 1, 1, 1])] (mkJ 0 [(2, .ptr 0 0), (3, .ptr 1 0), (4, .ptr 2 0)] 0 62)) [] [(0, OBlk.cells 97 [.int .i64 cn, .int .i64 cr, .int .i64 cp, .int .i64 cdl, .dat cps, .dat css, .bool cv, .int .i64 p1, .int .i64 p2, .int .i64 p3, .int .i64 p4, .bool pf, .int .i64 p6, .dat pw, .dat ph, .int .i64 q1, .int .i64 q2, .int .i64 q3, .int .i64 q4, .bool qf, .int .i64 q6, .dat qw, .dat qh, .int .i64 r1, .int .i64 r2, .int .i64 r3, .int .i64 r4, .bool rf, .int .i64 r6, .dat rw, .dat rh, .dat fl, .dat wa, .dat wb, .dat wc, .int .i64 now, .int .i64 clk, .bool rt, .int .i64 st]),
 (1, OBlk.cells 50 [.int .i64 mk, .int .i64 mf, .int .i64 mto, .int .i64 mn, .int .i64 mv, .int .i64 me, .dat ml, .dat mb]), (2, OBlk.cells 97 [.int .i64 0, .int .i64 0, .int .i64 0, .int .i64 0, .nils, .nils, .lb false, .int .i64 0, .int .i64 0, .int .i64 0, .int .i64 0, .lb false, .int .i64 0, .nils, .nils, .int .i64 0, .int .i64 0, .int .i64 0, .int .i64 0, .lb false, .int .i64 0, .nils, .nils, .int .i64 0, .int .i64 0, .int .i64 0, .int .i64 0, .lb false, .int .i64 0, .nils, .nils, .nils, .nils, .nils, .nils, .int .i64 0, .int .i64 0, .lb false, .int .i64 0])])))) := by
 intros; kernel_rfl

theorem recv0_go : 
 let z1 := (obeyMb (MbD.mb (MbD.mk p1 p2 p3 p4 pf p6 pw ph)) now 12 (MsgD.msg (MsgD.mk mk mf 0 mn mv me ml mb)))
 exec Try.prog ctG 900 (recvL cn cr cp cdl cps css cv p1 p2 p3 p4 pf p6 pw ph q1 q2 q3 q4 qf q6 qw qh r1 r2 r3 r4 rf r6 rw rh fl wa wb wc now clk rt st mk mf 0 mn mv me ml mb) =
 Tree.all fun hs => .need ((0 : Int) ≤ 0 ∧ 0 < (↑3 : Int)) (.need (MbD.Right (MbD.mk p1 p2 p3 p4 pf p6 pw ph)) (.need ((0 : Int) ≤ 0 ∧ 0 < (↑3 : Int)) (.need (D.Is Wr wa ∧ D.len wa ≤ 1048576 ∧ D.Is Int
 (D.like (hs 8 2) (Prod.fst (Prod.snd z1))) ∧ D.len (D.like (hs 8 2) (Prod.fst (Prod.snd z1))) ≤ 1048575 ∧ Prod.snd (ackW clk (Mb.frozen (Prod.fst z1)) (D.to Int (D.like (hs 8 2) (Prod.fst (Prod.snd z1))))
 (D.to Wr wa)) = true) (.all fun hs_1 => .need (D.Is Msg fl ∧ D.len fl ≤ 1048576 ∧ D.Is Msg (D.like (hs 8 3) (Prod.snd (Prod.snd z1))) ∧ D.len (D.like (hs 8 3) (Prod.snd (Prod.snd z1))) ≤ 1048576) (.all fun hs_2 => .ret
 (.agg [.int .i64 cn, .int .i64 cr, .int .i64 cp, .int .i64 cdl, .dat cps, .dat css, .bool cv, .int .i64 (Mb.round (Prod.fst z1)), .int .i64 (Mb.position (Prod.fst z1)), .int .i64 (Mb.thawed (Prod.fst z1)), .int .i64
 (Mb.issued (Prod.fst z1)), .bool (Mb.frozen (Prod.fst z1)), .int .i64 (Mb.upto (Prod.fst z1)), .dat (D.like (hs 8 0) (Mb.waiting (Prod.fst z1))), .dat (D.like (hs 8 1) (Mb.held (Prod.fst z1))), .int .i64 q1, .int .i64 q2, .int .i64 q3, .int .i64 q4, .bool qf, .int .i64 q6, .dat qw, .dat qh, .int .i64 r1, .int .i64 r2, .int .i64 r3, .int .i64 r4, .bool rf, .int .i64 r6, .dat rw, .dat rh, .dat
 (D.like (hs_2 0 0) (List.append (D.to Msg fl) (D.to Msg (D.like (hs 8 3) (Prod.snd (Prod.snd z1)))))), .dat (D.like (hs_1 0 0) (Prod.fst (ackW clk (Mb.frozen (Prod.fst z1)) (D.to Int (D.like (hs 8 2) (Prod.fst
 (Prod.snd z1)))) (D.to Wr wa)))), .dat wb, .dat wc, .int .i64 now, .int .i64 clk, .bool rt, .int .i64 st])))))) := by
 intros; kernel_rfl

theorem recv1_go : 
 let z1 := (obeyMb (MbD.mb (MbD.mk q1 q2 q3 q4 qf q6 qw qh)) now 12 (MsgD.msg (MsgD.mk mk mf 1 mn mv me ml mb)))
 exec Try.prog ctG 900 (recvL cn cr cp cdl cps css cv p1 p2 p3 p4 pf p6 pw ph q1 q2 q3 q4 qf q6 qw qh r1 r2 r3 r4 rf r6 rw rh fl wa wb wc now clk rt st mk mf 1 mn mv me ml mb) =
 Tree.all fun hs => .need ((0 : Int) ≤ 1 ∧ 1 < (↑3 : Int)) (.need (MbD.Right (MbD.mk q1 q2 q3 q4 qf q6 qw qh)) (.need ((0 : Int) ≤ 1 ∧ 1 < (↑3 : Int)) (.need (D.Is Wr wb ∧ D.len wb ≤ 1048576 ∧ D.Is Int
 (D.like (hs 8 2) (Prod.fst (Prod.snd z1))) ∧ D.len (D.like (hs 8 2) (Prod.fst (Prod.snd z1))) ≤ 1048575 ∧ Prod.snd (ackW clk (Mb.frozen (Prod.fst z1)) (D.to Int (D.like (hs 8 2) (Prod.fst (Prod.snd z1))))
 (D.to Wr wb)) = true) (.all fun hs_1 => .need (D.Is Msg fl ∧ D.len fl ≤ 1048576 ∧ D.Is Msg (D.like (hs 8 3) (Prod.snd (Prod.snd z1))) ∧ D.len (D.like (hs 8 3) (Prod.snd (Prod.snd z1))) ≤ 1048576) (.all fun hs_2 => .ret
 (.agg [.int .i64 cn, .int .i64 cr, .int .i64 cp, .int .i64 cdl, .dat cps, .dat css, .bool cv, .int .i64 p1, .int .i64 p2, .int .i64 p3, .int .i64 p4, .bool pf, .int .i64 p6, .dat pw, .dat ph, .int .i64
 (Mb.round (Prod.fst z1)), .int .i64 (Mb.position (Prod.fst z1)), .int .i64 (Mb.thawed (Prod.fst z1)), .int .i64 (Mb.issued (Prod.fst z1)), .bool (Mb.frozen (Prod.fst z1)), .int .i64 (Mb.upto (Prod.fst z1)), .dat
 (D.like (hs 8 0) (Mb.waiting (Prod.fst z1))), .dat (D.like (hs 8 1) (Mb.held (Prod.fst z1))), .int .i64 r1, .int .i64 r2, .int .i64 r3, .int .i64 r4, .bool rf, .int .i64 r6, .dat rw, .dat rh, .dat (D.like
 (hs_2 0 0) (List.append (D.to Msg fl) (D.to Msg (D.like (hs 8 3) (Prod.snd (Prod.snd z1)))))), .dat wa, .dat (D.like (hs_1 0 0) (Prod.fst (ackW clk (Mb.frozen (Prod.fst z1)) (D.to Int (D.like (hs 8 2)
 (Prod.fst (Prod.snd z1)))) (D.to Wr wb)))), .dat wc, .int .i64 now, .int .i64 clk, .bool rt, .int .i64 st])))))) := by
 intros; kernel_rfl

theorem recv2_go : 
 let z1 := (obeyMb (MbD.mb (MbD.mk r1 r2 r3 r4 rf r6 rw rh)) now 12 (MsgD.msg (MsgD.mk mk mf 2 mn mv me ml mb)))
 exec Try.prog ctG 900 (recvL cn cr cp cdl cps css cv p1 p2 p3 p4 pf p6 pw ph q1 q2 q3 q4 qf q6 qw qh r1 r2 r3 r4 rf r6 rw rh fl wa wb wc now clk rt st mk mf 2 mn mv me ml mb) =
 Tree.all fun hs => .need ((0 : Int) ≤ 2 ∧ 2 < (↑3 : Int)) (.need (MbD.Right (MbD.mk r1 r2 r3 r4 rf r6 rw rh)) (.need ((0 : Int) ≤ 2 ∧ 2 < (↑3 : Int)) (.need (D.Is Wr wc ∧ D.len wc ≤ 1048576 ∧ D.Is Int
 (D.like (hs 8 2) (Prod.fst (Prod.snd z1))) ∧ D.len (D.like (hs 8 2) (Prod.fst (Prod.snd z1))) ≤ 1048575 ∧ Prod.snd (ackW clk (Mb.frozen (Prod.fst z1)) (D.to Int (D.like (hs 8 2) (Prod.fst (Prod.snd z1))))
 (D.to Wr wc)) = true) (.all fun hs_1 => .need (D.Is Msg fl ∧ D.len fl ≤ 1048576 ∧ D.Is Msg (D.like (hs 8 3) (Prod.snd (Prod.snd z1))) ∧ D.len (D.like (hs 8 3) (Prod.snd (Prod.snd z1))) ≤ 1048576) (.all fun hs_2 => .ret
 (.agg [.int .i64 cn, .int .i64 cr, .int .i64 cp, .int .i64 cdl, .dat cps, .dat css, .bool cv, .int .i64 p1, .int .i64 p2, .int .i64 p3, .int .i64 p4, .bool pf, .int .i64 p6, .dat pw, .dat ph, .int .i64 q1, .int .i64 q2, .int .i64 q3, .int .i64 q4, .bool qf, .int .i64 q6, .dat qw, .dat qh, .int .i64
 (Mb.round (Prod.fst z1)), .int .i64 (Mb.position (Prod.fst z1)), .int .i64 (Mb.thawed (Prod.fst z1)), .int .i64 (Mb.issued (Prod.fst z1)), .bool (Mb.frozen (Prod.fst z1)), .int .i64 (Mb.upto (Prod.fst z1)), .dat
 (D.like (hs 8 0) (Mb.waiting (Prod.fst z1))), .dat (D.like (hs 8 1) (Mb.held (Prod.fst z1))), .dat (D.like (hs_2 0 0) (List.append (D.to Msg fl) (D.to Msg (D.like (hs 8 3) (Prod.snd (Prod.snd z1)))))), .dat wa, .dat wb, .dat
 (D.like (hs_1 0 0) (Prod.fst (ackW clk (Mb.frozen (Prod.fst z1)) (D.to Int (D.like (hs 8 2) (Prod.fst (Prod.snd z1)))) (D.to Wr wc)))), .int .i64 now, .int .i64 clk, .bool rt, .int .i64 st])))))) := by
 intros; kernel_rfl

end
end Go.Proofs.Ytoechplbhbalaaa
end
section
open Go Go.Proofs Sx
namespace Go.Proofs.Ytoechplbhbalaaa
set_option maxRecDepth 100000
set_option maxHeartbeats 0

theorem recv0_run {w : World} {H : HV} {cn cr cp cdl : Int} {cps css : D} {cv : Bool} {p1 p2 p3 p4 : Int} {pf : Bool} {p6 : Int} {pw ph : D} {q1 q2 q3 q4 : Int} {qf : Bool} {q6 : Int} {qw qh : D} {r1 r2 r3 r4 : Int} {rf : Bool} {r6 : Int} {rw rh : D} {fl wa wb wc : D} {now clk : Int} {rt : Bool} {st : Int} {mk mf mn mv me : Int} {ml mb : D} (hR : GrRight (cv9 cn cr cp cdl cps css cv p1 p2 p3 p4 pf p6 pw ph q1 q2 q3 q4 qf q6 qw qh r1 r2 r3 r4 rf r6 rw rh fl wa wb wc now clk rt st)) (hr : (obeyG (grOf (cv9 cn cr cp cdl cps css cv p1 p2 p3 p4 pf p6 pw ph q1 q2 q3 q4 qf q6 qw qh r1 r2 r3 r4 rf r6 rw rh fl wa wb wc now clk rt st)) ⟨mk, mf, 0, mn, mv, me, ml.to Int, mb.to Byte⟩ 0).right = true) :
  Runs Try.prog ⟨w, H⟩ (recvL cn cr cp cdl cps css cv p1 p2 p3 p4 pf p6 pw ph q1 q2 q3 q4 qf q6 qw qh r1 r2 r3 r4 rf r6 rw rh fl wa wb wc now clk rt st mk mf 0 mn mv me ml mb) (RetD w H fun ds => .agg (svOf ds 0 (obeyG (grOf (cv9 cn cr cp cdl cps css cv p1 p2 p3 p4 pf p6 pw ph q1 q2 q3 q4 qf q6 qw qh r1 r2 r3 r4 rf r6 rw rh fl wa wb wc now clk rt st)) ⟨mk, mf, 0, mn, mv, me, ml.to Int, mb.to Byte⟩ 0).cls)) := by
 rw [grRight_eq] at hR
 rw [grOf_eq] at hr ⊢
 obtain ⟨⟨hc1, hc2⟩, hp, hq, hr', ⟨hf, hfl⟩, ⟨ha, hal⟩, ⟨hb, hbl⟩, ⟨hcc, hcl⟩⟩ := hR
 have hp' := hp; have hq' := hq; have hr2 := hr'
 obtain ⟨hpw, hph, hpl, hpm⟩ := hp'
 obtain ⟨hqw, hqh, hql, hqm⟩ := hq'
 obtain ⟨hrw, hrh, hrl, hrm⟩ := hr2
 simp only at hpw hph hpl hpm hqw hqh hql hqm hrw hrh hrl hrm
 simp only [obeyG, sendG, ackG, tri_0, tri_1, tri_2, tri_upd0, tri_upd1, tri_upd2, Bool.and_eq_true] at hr
 simp only [obeyG, sendG, ackG, tri_0, tri_1, tri_2, tri_upd0, tri_upd1, tri_upd2, cls_tri]
 have hob := obeyMb_len ⟨p1, p2, p3, p4, pf, p6, pw.to Int, ph.to Int⟩ now 12 ⟨mk, mf, 0, mn, mv, me, ml.to Int, mb.to Byte⟩
 obtain ⟨o1, o2, o3, o4, o5⟩ := hob
 simp only at o1 o2 o3 o4
 have hhl := D.Is.length (α := Int) ph
 apply exec_sound ctGOk 900
 rw [recv0_go]
 refine fun hs => ⟨⟨by omega, by omega⟩, hp, ⟨by omega, by omega⟩, ⟨ha, by omega, D.like_is _ _, ?_, ?_⟩, fun hs1 => ⟨⟨hf, by omega, D.like_is _ _, ?_⟩, fun hs2 => ?_⟩⟩
 ·rw [like_len]; exact Nat.le_trans o3 (by omega)
 ·rw [D.like_to]; exact hr.2
 ·rw [like_len]; exact Nat.le_trans o4 (by omega)
 ·refine ret_cells ?_
  repeat' first
  | exact .nil
  | refine .cons ?_ ?_
  | exact rfl
  | exact fun _ => rfl
  | exact lst_ok stands_like
  | exact lst_ok (stands_self (by assumption))
  | exact lst_ok (by rw [D.like_to]; exact stands_like)
  | exact bool_ok (by rw [hr.2, Bool.and_true])
  | fail

theorem recv1_run {w : World} {H : HV} {cn cr cp cdl : Int} {cps css : D} {cv : Bool} {p1 p2 p3 p4 : Int} {pf : Bool} {p6 : Int} {pw ph : D} {q1 q2 q3 q4 : Int} {qf : Bool} {q6 : Int} {qw qh : D} {r1 r2 r3 r4 : Int} {rf : Bool} {r6 : Int} {rw rh : D} {fl wa wb wc : D} {now clk : Int} {rt : Bool} {st : Int} {mk mf mn mv me : Int} {ml mb : D} (hR : GrRight (cv9 cn cr cp cdl cps css cv p1 p2 p3 p4 pf p6 pw ph q1 q2 q3 q4 qf q6 qw qh r1 r2 r3 r4 rf r6 rw rh fl wa wb wc now clk rt st)) (hr : (obeyG (grOf (cv9 cn cr cp cdl cps css cv p1 p2 p3 p4 pf p6 pw ph q1 q2 q3 q4 qf q6 qw qh r1 r2 r3 r4 rf r6 rw rh fl wa wb wc now clk rt st)) ⟨mk, mf, 1, mn, mv, me, ml.to Int, mb.to Byte⟩ 1).right = true) :
  Runs Try.prog ⟨w, H⟩ (recvL cn cr cp cdl cps css cv p1 p2 p3 p4 pf p6 pw ph q1 q2 q3 q4 qf q6 qw qh r1 r2 r3 r4 rf r6 rw rh fl wa wb wc now clk rt st mk mf 1 mn mv me ml mb) (RetD w H fun ds => .agg (svOf ds 0 (obeyG (grOf (cv9 cn cr cp cdl cps css cv p1 p2 p3 p4 pf p6 pw ph q1 q2 q3 q4 qf q6 qw qh r1 r2 r3 r4 rf r6 rw rh fl wa wb wc now clk rt st)) ⟨mk, mf, 1, mn, mv, me, ml.to Int, mb.to Byte⟩ 1).cls)) := by
 rw [grRight_eq] at hR
 rw [grOf_eq] at hr ⊢
 obtain ⟨⟨hc1, hc2⟩, hp, hq, hr', ⟨hf, hfl⟩, ⟨ha, hal⟩, ⟨hb, hbl⟩, ⟨hcc, hcl⟩⟩ := hR
 have hp' := hp; have hq' := hq; have hr2 := hr'
 obtain ⟨hpw, hph, hpl, hpm⟩ := hp'
 obtain ⟨hqw, hqh, hql, hqm⟩ := hq'
 obtain ⟨hrw, hrh, hrl, hrm⟩ := hr2
 simp only at hpw hph hpl hpm hqw hqh hql hqm hrw hrh hrl hrm
 simp only [obeyG, sendG, ackG, tri_0, tri_1, tri_2, tri_upd0, tri_upd1, tri_upd2, Bool.and_eq_true] at hr
 simp only [obeyG, sendG, ackG, tri_0, tri_1, tri_2, tri_upd0, tri_upd1, tri_upd2, cls_tri]
 have hob := obeyMb_len ⟨q1, q2, q3, q4, qf, q6, qw.to Int, qh.to Int⟩ now 12 ⟨mk, mf, 1, mn, mv, me, ml.to Int, mb.to Byte⟩
 obtain ⟨o1, o2, o3, o4, o5⟩ := hob
 simp only at o1 o2 o3 o4
 have hhl := D.Is.length (α := Int) qh
 apply exec_sound ctGOk 900
 rw [recv1_go]
 refine fun hs => ⟨⟨by omega, by omega⟩, hq, ⟨by omega, by omega⟩, ⟨hb, by omega, D.like_is _ _, ?_, ?_⟩, fun hs1 => ⟨⟨hf, by omega, D.like_is _ _, ?_⟩, fun hs2 => ?_⟩⟩
 ·rw [like_len]; exact Nat.le_trans o3 (by omega)
 ·rw [D.like_to]; exact hr.2
 ·rw [like_len]; exact Nat.le_trans o4 (by omega)
 ·refine ret_cells ?_
  repeat' first
  | exact .nil
  | refine .cons ?_ ?_
  | exact rfl
  | exact fun _ => rfl
  | exact lst_ok stands_like
  | exact lst_ok (stands_self (by assumption))
  | exact lst_ok (by rw [D.like_to]; exact stands_like)
  | exact bool_ok (by rw [hr.2, Bool.and_true])
  | fail

theorem recv2_run {w : World} {H : HV} {cn cr cp cdl : Int} {cps css : D} {cv : Bool} {p1 p2 p3 p4 : Int} {pf : Bool} {p6 : Int} {pw ph : D} {q1 q2 q3 q4 : Int} {qf : Bool} {q6 : Int} {qw qh : D} {r1 r2 r3 r4 : Int} {rf : Bool} {r6 : Int} {rw rh : D} {fl wa wb wc : D} {now clk : Int} {rt : Bool} {st : Int} {mk mf mn mv me : Int} {ml mb : D} (hR : GrRight (cv9 cn cr cp cdl cps css cv p1 p2 p3 p4 pf p6 pw ph q1 q2 q3 q4 qf q6 qw qh r1 r2 r3 r4 rf r6 rw rh fl wa wb wc now clk rt st)) (hr : (obeyG (grOf (cv9 cn cr cp cdl cps css cv p1 p2 p3 p4 pf p6 pw ph q1 q2 q3 q4 qf q6 qw qh r1 r2 r3 r4 rf r6 rw rh fl wa wb wc now clk rt st)) ⟨mk, mf, 2, mn, mv, me, ml.to Int, mb.to Byte⟩ 2).right = true) :
  Runs Try.prog ⟨w, H⟩ (recvL cn cr cp cdl cps css cv p1 p2 p3 p4 pf p6 pw ph q1 q2 q3 q4 qf q6 qw qh r1 r2 r3 r4 rf r6 rw rh fl wa wb wc now clk rt st mk mf 2 mn mv me ml mb) (RetD w H fun ds => .agg (svOf ds 0 (obeyG (grOf (cv9 cn cr cp cdl cps css cv p1 p2 p3 p4 pf p6 pw ph q1 q2 q3 q4 qf q6 qw qh r1 r2 r3 r4 rf r6 rw rh fl wa wb wc now clk rt st)) ⟨mk, mf, 2, mn, mv, me, ml.to Int, mb.to Byte⟩ 2).cls)) := by
 rw [grRight_eq] at hR
 rw [grOf_eq] at hr ⊢
 obtain ⟨⟨hc1, hc2⟩, hp, hq, hr', ⟨hf, hfl⟩, ⟨ha, hal⟩, ⟨hb, hbl⟩, ⟨hcc, hcl⟩⟩ := hR
 have hp' := hp; have hq' := hq; have hr2 := hr'
 obtain ⟨hpw, hph, hpl, hpm⟩ := hp'
 obtain ⟨hqw, hqh, hql, hqm⟩ := hq'
 obtain ⟨hrw, hrh, hrl, hrm⟩ := hr2
 simp only at hpw hph hpl hpm hqw hqh hql hqm hrw hrh hrl hrm
 simp only [obeyG, sendG, ackG, tri_0, tri_1, tri_2, tri_upd0, tri_upd1, tri_upd2, Bool.and_eq_true] at hr
 simp only [obeyG, sendG, ackG, tri_0, tri_1, tri_2, tri_upd0, tri_upd1, tri_upd2, cls_tri]
 have hob := obeyMb_len ⟨r1, r2, r3, r4, rf, r6, rw.to Int, rh.to Int⟩ now 12 ⟨mk, mf, 2, mn, mv, me, ml.to Int, mb.to Byte⟩
 obtain ⟨o1, o2, o3, o4, o5⟩ := hob
 simp only at o1 o2 o3 o4
 have hhl := D.Is.length (α := Int) rh
 apply exec_sound ctGOk 900
 rw [recv2_go]
 refine fun hs => ⟨⟨by omega, by omega⟩, hr', ⟨by omega, by omega⟩, ⟨hcc, by omega, D.like_is _ _, ?_, ?_⟩, fun hs1 => ⟨⟨hf, by omega, D.like_is _ _, ?_⟩, fun hs2 => ?_⟩⟩
 ·rw [like_len]; exact Nat.le_trans o3 (by omega)
 ·rw [D.like_to]; exact hr.2
 ·rw [like_len]; exact Nat.le_trans o4 (by omega)
 ·refine ret_cells ?_
  repeat' first
  | exact .nil
  | refine .cons ?_ ?_
  | exact rfl
  | exact fun _ => rfl
  | exact lst_ok stands_like
  | exact lst_ok (stands_self (by assumption))
  | exact lst_ok (by rw [D.like_to]; exact stands_like)
  | exact bool_ok (by rw [hr.2, Bool.and_true])
  | fail

theorem recv_ent {w : World} {H : HV} {cn cr cp cdl : Int} {cps css : D} {cv : Bool} {p1 p2 p3 p4 : Int} {pf : Bool} {p6 : Int} {pw ph : D} {q1 q2 q3 q4 : Int} {qf : Bool} {q6 : Int} {qw qh : D} {r1 r2 r3 r4 : Int} {rf : Bool} {r6 : Int} {rw rh : D} {fl wa wb wc : D} {now clk : Int} {rt : Bool} {st : Int} {mk mf mto mn mv me : Int} {ml mb : D} (hR : GrRight (cv9 cn cr cp cdl cps css cv p1 p2 p3 p4 pf p6 pw ph q1 q2 q3 q4 qf q6 qw qh r1 r2 r3 r4 rf r6 rw rh fl wa wb wc now clk rt st)) (hr : (recvG (grOf (cv9 cn cr cp cdl cps css cv p1 p2 p3 p4 pf p6 pw ph q1 q2 q3 q4 qf q6 qw qh r1 r2 r3 r4 rf r6 rw rh fl wa wb wc now clk rt st)) ⟨mk, mf, mto, mn, mv, me, ml.to Int, mb.to Byte⟩).right = true) :
  Runs Try.prog ⟨w, H⟩ (entry Try.prog 79 [.agg (cl9 cn cr cp cdl cps css cv p1 p2 p3 p4 pf p6 pw ph q1 q2 q3 q4 qf q6 qw qh r1 r2 r3 r4 rf r6 rw rh fl wa wb wc now clk rt st), .agg [.int .i64 mk, .int .i64 mf, .int .i64 mto, .int .i64 mn, .int .i64 mv, .int .i64 me, .dat ml, .dat mb]]) (RetD w H fun ds => .agg (svOf ds 0 (recvG (grOf (cv9 cn cr cp cdl cps css cv p1 p2 p3 p4 pf p6 pw ph q1 q2 q3 q4 qf q6 qw qh r1 r2 r3 r4 rf r6 rw rh fl wa wb wc now clk rt st)) ⟨mk, mf, mto, mn, mv, me, ml.to Int, mb.to Byte⟩).cls)) := by
 have hR0 := hR
 rw [grRight_eq] at hR
 obtain ⟨⟨hc1, hc2⟩, ⟨hpw, hph, _, _⟩, ⟨hqw, hqh, _, _⟩, ⟨hrw, hrh, _, _⟩, ⟨hf, hfl⟩, ⟨ha, hal⟩, ⟨hb, hbl⟩, ⟨hcc, hcl⟩⟩ := hR
 simp only at hpw hph hqw hqh hrw hrh
 apply goS_sound ctGOk (fun _ => false) [(79, 38)] 900
 rw [recv_in]
 refine ⟨fun h3 => ?_, fun h3 => ⟨fun h0 => ?_, fun h0 => ⟨fun h4 => ?_, fun h4 => ?_⟩⟩⟩
 ·have h3 : mto = 3 := of_decide_eq_true h3
  have e : recvG (grOf (cv9 cn cr cp cdl cps css cv p1 p2 p3 p4 pf p6 pw ph q1 q2 q3 q4 qf q6 qw qh r1 r2 r3 r4 rf r6 rw rh fl wa wb wc now clk rt st)) ⟨mk, mf, mto, mn, mv, me, ml.to Int, mb.to Byte⟩ = sendG { grOf (cv9 cn cr cp cdl cps css cv p1 p2 p3 p4 pf p6 pw ph q1 q2 q3 q4 qf q6 qw qh r1 r2 r3 r4 rf r6 rw rh fl wa wb wc now clk rt st) with c := (collectCo (grOf (cv9 cn cr cp cdl cps css cv p1 p2 p3 p4 pf p6 pw ph q1 q2 q3 q4 qf q6 qw qh r1 r2 r3 r4 rf r6 rw rh fl wa wb wc now clk rt st)).c (grOf (cv9 cn cr cp cdl cps css cv p1 p2 p3 p4 pf p6 pw ph q1 q2 q3 q4 qf q6 qw qh r1 r2 r3 r4 rf r6 rw rh fl wa wb wc now clk rt st)).now ⟨mk, mf, mto, mn, mv, me, ml.to Int, mb.to Byte⟩).1 } (collectCo (grOf (cv9 cn cr cp cdl cps css cv p1 p2 p3 p4 pf p6 pw ph q1 q2 q3 q4 qf q6 qw qh r1 r2 r3 r4 rf r6 rw rh fl wa wb wc now clk rt st)).c (grOf (cv9 cn cr cp cdl cps css cv p1 p2 p3 p4 pf p6 pw ph q1 q2 q3 q4 qf q6 qw qh r1 r2 r3 r4 rf r6 rw rh fl wa wb wc now clk rt st)).now ⟨mk, mf, mto, mn, mv, me, ml.to Int, mb.to Byte⟩).2 := by rw [recvG, if_pos h3]
  rw [e] at hr ⊢
  rw [grOf_eq] at hr ⊢
  simp only [sendG, cls_tri]
  obtain ⟨l1, l2, l3, l4⟩ := collectCo_len ⟨cn, cr, cp, cdl, cps.to Int, css.to Bool, cv⟩ now ⟨mk, mf, mto, mn, mv, me, ml.to Int, mb.to Byte⟩
  refine ⟨⟨hc1, hc2⟩, fun hs => ⟨⟨hf, by omega, D.like_is _ _, ?_⟩, fun hs1 => ?_⟩⟩
  ·rw [like_len]; exact Nat.le_trans l3 (by omega)
  ·refine ret_cells ?_
   repeat' first
   | exact .nil
   | refine .cons ?_ ?_
   | exact rfl
   | exact fun _ => rfl
   | exact lst_ok stands_like
   | exact lst_ok (stands_self (by assumption))
   | exact lst_ok (by rw [D.like_to]; exact stands_like)
   | exact bool_ok (by rw [hr.2, Bool.and_true])
   | fail
 ·have h0 : mto < 0 := of_decide_eq_true h0
  have e : recvG (grOf (cv9 cn cr cp cdl cps css cv p1 p2 p3 p4 pf p6 pw ph q1 q2 q3 q4 qf q6 qw qh r1 r2 r3 r4 rf r6 rw rh fl wa wb wc now clk rt st)) ⟨mk, mf, mto, mn, mv, me, ml.to Int, mb.to Byte⟩ = { grOf (cv9 cn cr cp cdl cps css cv p1 p2 p3 p4 pf p6 pw ph q1 q2 q3 q4 qf q6 qw qh r1 r2 r3 r4 rf r6 rw rh fl wa wb wc now clk rt st) with right := false } := by rw [recvG, if_neg (by simp only; omega), if_neg (by simp only; omega), if_neg (by simp only; omega), if_neg (by simp only; omega)]
  rw [e] at hr
  cases hr
 ·have h4 : mto > 3 := of_decide_eq_true h4
  have e : recvG (grOf (cv9 cn cr cp cdl cps css cv p1 p2 p3 p4 pf p6 pw ph q1 q2 q3 q4 qf q6 qw qh r1 r2 r3 r4 rf r6 rw rh fl wa wb wc now clk rt st)) ⟨mk, mf, mto, mn, mv, me, ml.to Int, mb.to Byte⟩ = { grOf (cv9 cn cr cp cdl cps css cv p1 p2 p3 p4 pf p6 pw ph q1 q2 q3 q4 qf q6 qw qh r1 r2 r3 r4 rf r6 rw rh fl wa wb wc now clk rt st) with right := false } := by rw [recvG, if_neg (by simp only; omega), if_neg (by simp only; omega), if_neg (by simp only; omega), if_neg (by simp only; omega)]
  rw [e] at hr
  cases hr
 ·have h3 : ¬mto = 3 := of_decide_eq_false h3
  have h0 : ¬mto < 0 := of_decide_eq_false h0
  have h4 : ¬mto > 3 := of_decide_eq_false h4
  have hm : mto = 0 ∨ mto = 1 ∨ mto = 2 := by omega
  rcases hm with rfl | rfl | rfl
  ·exact recv0_run hR0 hr
  ·exact recv1_run hR0 hr
  ·exact recv2_run hR0 hr

theorem lawRecv : Law Try.prog 79 (((rdCells grK).two rdMsg).sp spRecv) := by
 refine law_in _ (by kernel_rfl) fun H w ⟨⟨cs, hsh⟩, ⟨mk, mf, mto, mn, mv, me, ml, mb⟩⟩ hok => ?_
 obtain ⟨cn, cr, cp, cdl, cps, css, cv, p1, p2, p3, p4, pf, p6, pw, ph, q1, q2, q3, q4, qf, q6, qw, qh, r1, r2, r3, r4, rf, r6, rw, rh, fl, wa, wb, wc, now, clk, rt, st, rfl⟩ := gr_shape hsh
 intro hp
 obtain ⟨h1, _, h2⟩ := hp _ (List.mem_singleton.2 rfl)
 exact recv_ent h1 h2
end Go.Proofs.Ytoechplbhbalaaa
end
section
open Go Go.Proofs Sx
namespace Sx
theorem durG_nil {g : Gr} {i : Fin 3} {w : Int} (h : (g.node i).waiting.length = 0) : durG g i w = g := by
 unfold durG
 exact if_pos h
theorem durG_go {g : Gr} {i : Fin 3} {w : Int} {k : Nat} {x : Int} (h : ¬(g.node i).waiting.length = 0) (hk : (Int.tmod w (g.node i).waiting.length).toNat = k) (hx : (g.node i).waiting.getD k 0 = x) :
  durG g i w = if x < 0 ∨ x ≥ (g.wr i).length then { g with right := false } else
   ackG { g with wr := upd g.wr i ((g.wr i).set x.toNat { (g.wr i).getD x.toNat noWr with durable := g.clock }), node := upd g.node i (durMb (g.node i) x).1, right := g.right && decide ((durMb (g.node i) x).2.2 = 0) } i (durMb (g.node i) x).2.1 := by
 subst hk; subst hx
 unfold durG
 exact if_neg h
theorem wr_set2 {d : D} (hd : d.Is Wr) {i : Nat} (hi : i < (d.to Wr).length) (v : Int) :
  (d.setCells i 2 [.int .i64 v]).Is Wr ∧ (d.setCells i 2 [.int .i64 v]).to Wr = (d.to Wr).set i { (d.to Wr)[i] with durable := v } := by
 have hz := hd.size hi
 have hr := rows_of hd
 have hl := rows_len hr
 obtain ⟨r, h1, ⟨a, b, c, e, rfl⟩, h3⟩ := hd.row hi
 have hg : d.rows.getD i [] = [.int .i64 a, .int .i64 b, .int .i64 c, .int .i64 e] := by simp [h1]
 have hcut : cutIn (d.rows.getD i []) 2 [.int .i64 v] = [.int .i64 a, .int .i64 b, .int .i64 v, .int .i64 e] := by rw [hg]; rfl
 have := is_of (α := Wr) (h := d.hd) (s := d.sz) (rows := d.rows.set i [.int .i64 a, .int .i64 b, .int .i64 v, .int .i64 e]) (xs := (d.to Wr).set i ⟨a, b, v, e⟩) hz ⟨fun r hr' => by
  rcases List.mem_or_eq_of_mem_set hr' with h | h
  ·exact hr.1 r h
  ·rw [h]; exact ⟨_, _, _, _, rfl⟩, by rw [List.map_set, hr.2]; rfl⟩
 unfold D.setCells
 rw [hcut, h3]
 exact this
end Sx
namespace Go.Proofs.Ytoechplbhbalaaa
set_option maxRecDepth 100000
set_option maxHeartbeats 0

theorem dur0_ent {w : World} {H : HV} {cn cr cp cdl : Int} {cps css : D} {cv : Bool} {p1 p2 p3 p4 : Int} {pf : Bool} {p6 : Int} {pw ph : D} {q1 q2 q3 q4 : Int} {qf : Bool} {q6 : Int} {qw qh : D} {r1 r2 r3 r4 : Int} {rf : Bool} {r6 : Int} {rw rh : D} {fl wa wb wc : D} {now clk : Int} {rt : Bool} {st : Int} {ew : Int} (hew : U8 ew) (hR : GrRight (cv9 cn cr cp cdl cps css cv p1 p2 p3 p4 pf p6 pw ph q1 q2 q3 q4 qf q6 qw qh r1 r2 r3 r4 rf r6 rw rh fl wa wb wc now clk rt st)) (hr : (durG (grOf (cv9 cn cr cp cdl cps css cv p1 p2 p3 p4 pf p6 pw ph q1 q2 q3 q4 qf q6 qw qh r1 r2 r3 r4 rf r6 rw rh fl wa wb wc now clk rt st)) 0 ew).right = true) :
  Runs Try.prog ⟨w, H⟩ (entry Try.prog 76 [.agg (cl9 cn cr cp cdl cps css cv p1 p2 p3 p4 pf p6 pw ph q1 q2 q3 q4 qf q6 qw qh r1 r2 r3 r4 rf r6 rw rh fl wa wb wc now clk rt st), .int .i64 0, .int .u8 ew]) (RetD w H fun ds => .agg (svOf ds 0 (durG (grOf (cv9 cn cr cp cdl cps css cv p1 p2 p3 p4 pf p6 pw ph q1 q2 q3 q4 qf q6 qw qh r1 r2 r3 r4 rf r6 rw rh fl wa wb wc now clk rt st)) 0 ew).cls)) := by
 have hR0 := hR
 rw [grRight_eq] at hR
 obtain ⟨⟨hc1, hc2⟩, hp, hq, hr', ⟨hf, hfl⟩, ⟨ha, hal⟩, ⟨hb, hbl⟩, ⟨hcc, hcl⟩⟩ := hR
 have hx0 := hp
 have hp' := hp; have hq' := hq; have hr2 := hr'
 obtain ⟨hpw, hph, hpl, hpm⟩ := hp'
 obtain ⟨hqw, hqh, hql, hqm⟩ := hq'
 obtain ⟨hrw, hrh, hrl, hrm⟩ := hr2
 simp only at hpw hph hpl hpm hqw hqh hql hqm hrw hrh hrl hrm
 have hwi : wa.Is Wr := ha
 have l1 := D.Is.length (α := Int) pw
 have l2 := D.Is.length (α := Wr) wa
 have l3 := D.Is.length (α := Int) ph
 apply exec_sound ctGOk 900
 rw [durg0_in]
 have nn : (0 : Int) ≤ 0 ∧ (0 : Int) < ((3 : Nat) : Int) := by omega
 have e1 : IntKind.i64.wrap ew = ew := wrap64 (by have := hew.1; omega) (by have := hew.2; omega)
 rw [e1]
 refine ⟨nn, fun h0 => ?_, fun h0 hs => ?_⟩
 ·have h0 : (((pw.len : Nat)) : Int) = 0 := of_decide_eq_true h0
  have e : durG (grOf (cv9 cn cr cp cdl cps css cv p1 p2 p3 p4 pf p6 pw ph q1 q2 q3 q4 qf q6 qw qh r1 r2 r3 r4 rf r6 rw rh fl wa wb wc now clk rt st)) 0 ew = (grOf (cv9 cn cr cp cdl cps css cv p1 p2 p3 p4 pf p6 pw ph q1 q2 q3 q4 qf q6 qw qh r1 r2 r3 r4 rf r6 rw rh fl wa wb wc now clk rt st)) := durG_nil (by rw [grOf_eq]; simp only [tri_0, tri_1, tri_2]; omega)
  rw [e, grOf_eq, cls_tri]
  have hr : True ∧ True := ⟨trivial, trivial⟩
  refine ret_cells ?_
  repeat' first
  | exact .nil
  | refine .cons ?_ ?_
  | exact rfl
  | exact fun _ => rfl
  | exact lst_ok stands_like
  | exact lst_ok (stands_self (by assumption))
  | exact lst_ok (by rw [D.like_to]; exact stands_like)
  | exact bool_ok (by rw [hr.2, Bool.and_true])
  | fail
 ·have h0 : ¬(((pw.len : Nat)) : Int) = 0 := of_decide_eq_false h0
  have hlp : 0 < (pw.to Int).length := by omega
  have t0 : 0 ≤ Int.tmod ew pw.len := Int.tmod_nonneg _ hew.1
  have t1 : Int.tmod ew pw.len < pw.len := Int.tmod_lt_of_pos _ (by omega)
  obtain ⟨k, hk⟩ : ∃ k : Nat, Int.tmod ew pw.len = k := ⟨(Int.tmod ew pw.len).toNat, by omega⟩
  have hkl : k < (pw.to Int).length := by omega
  obtain ⟨c1, c2, c3⟩ := int_at hpw hkl
  rw [hk, c3]
  obtain ⟨x, hx⟩ : ∃ x, (pw.to Int)[k] = x := ⟨_, rfl⟩
  rw [hx]
  have hk2 : (Int.tmod ew ((pw.to Int).length : Int)).toNat = k := by rw [← l1, hk]; rfl
  have hg : (pw.to Int).getD k 0 = x := by rw [← hx]; simp [hkl]
  have hd : durG (grOf (cv9 cn cr cp cdl cps css cv p1 p2 p3 p4 pf p6 pw ph q1 q2 q3 q4 qf q6 qw qh r1 r2 r3 r4 rf r6 rw rh fl wa wb wc now clk rt st)) 0 ew = if x < 0 ∨ x ≥ (((grOf (cv9 cn cr cp cdl cps css cv p1 p2 p3 p4 pf p6 pw ph q1 q2 q3 q4 qf q6 qw qh r1 r2 r3 r4 rf r6 rw rh fl wa wb wc now clk rt st)).wr 0).length : Int) then { (grOf (cv9 cn cr cp cdl cps css cv p1 p2 p3 p4 pf p6 pw ph q1 q2 q3 q4 qf q6 qw qh r1 r2 r3 r4 rf r6 rw rh fl wa wb wc now clk rt st)) with right := false } else
    ackG { (grOf (cv9 cn cr cp cdl cps css cv p1 p2 p3 p4 pf p6 pw ph q1 q2 q3 q4 qf q6 qw qh r1 r2 r3 r4 rf r6 rw rh fl wa wb wc now clk rt st)) with wr := upd ((grOf (cv9 cn cr cp cdl cps css cv p1 p2 p3 p4 pf p6 pw ph q1 q2 q3 q4 qf q6 qw qh r1 r2 r3 r4 rf r6 rw rh fl wa wb wc now clk rt st))).wr 0 (((grOf (cv9 cn cr cp cdl cps css cv p1 p2 p3 p4 pf p6 pw ph q1 q2 q3 q4 qf q6 qw qh r1 r2 r3 r4 rf r6 rw rh fl wa wb wc now clk rt st)).wr 0).set x.toNat { ((grOf (cv9 cn cr cp cdl cps css cv p1 p2 p3 p4 pf p6 pw ph q1 q2 q3 q4 qf q6 qw qh r1 r2 r3 r4 rf r6 rw rh fl wa wb wc now clk rt st)).wr 0).getD x.toNat noWr with durable := (grOf (cv9 cn cr cp cdl cps css cv p1 p2 p3 p4 pf p6 pw ph q1 q2 q3 q4 qf q6 qw qh r1 r2 r3 r4 rf r6 rw rh fl wa wb wc now clk rt st)).clock }), node := upd ((grOf (cv9 cn cr cp cdl cps css cv p1 p2 p3 p4 pf p6 pw ph q1 q2 q3 q4 qf q6 qw qh r1 r2 r3 r4 rf r6 rw rh fl wa wb wc now clk rt st))).node 0 (durMb ((grOf (cv9 cn cr cp cdl cps css cv p1 p2 p3 p4 pf p6 pw ph q1 q2 q3 q4 qf q6 qw qh r1 r2 r3 r4 rf r6 rw rh fl wa wb wc now clk rt st)).node 0) x).1, right := (grOf (cv9 cn cr cp cdl cps css cv p1 p2 p3 p4 pf p6 pw ph q1 q2 q3 q4 qf q6 qw qh r1 r2 r3 r4 rf r6 rw rh fl wa wb wc now clk rt st)).right && decide ((durMb ((grOf (cv9 cn cr cp cdl cps css cv p1 p2 p3 p4 pf p6 pw ph q1 q2 q3 q4 qf q6 qw qh r1 r2 r3 r4 rf r6 rw rh fl wa wb wc now clk rt st)).node 0) x).2.2 = 0) } 0 (durMb ((grOf (cv9 cn cr cp cdl cps css cv p1 p2 p3 p4 pf p6 pw ph q1 q2 q3 q4 qf q6 qw qh r1 r2 r3 r4 rf r6 rw rh fl wa wb wc now clk rt st)).node 0) x).2.1 :=
   durG_go (k := k) (by rw [grOf_eq]; simp only [tri_0, tri_1, tri_2]; omega) (by rw [grOf_eq]; exact hk2) (by rw [grOf_eq]; exact hg)
  have hwn : (grOf (cv9 cn cr cp cdl cps css cv p1 p2 p3 p4 pf p6 pw ph q1 q2 q3 q4 qf q6 qw qh r1 r2 r3 r4 rf r6 rw rh fl wa wb wc now clk rt st)).wr 0 = wa.to Wr := by rw [grOf_eq]; rfl
  rw [hwn] at hd
  have hxr : 0 ≤ x ∧ x < ((wa.to Wr).length : Int) := by
   rw [hd] at hr
   split at hr
   ·cases hr
   ·omega
  rw [if_neg (by omega)] at hd
  rw [hd] at hr ⊢
  rw [grOf_eq] at hr ⊢
  simp only [ackG, tri_0, tri_1, tri_2, tri_upd0, tri_upd1, tri_upd2, Bool.and_eq_true] at hr
  simp only [ackG, tri_0, tri_1, tri_2, tri_upd0, tri_upd1, tri_upd2, cls_tri]
  obtain ⟨⟨hrt, he⟩, hX⟩ := hr
  have hkx : x.toNat < (wa.to Wr).length := by omega
  have hgw : (wa.to Wr).getD x.toNat noWr = (wa.to Wr)[x.toNat] := by simp [hkx]
  rw [hgw] at hX ⊢
  obtain ⟨o1, o2, o3⟩ := durMb_len ⟨p1, p2, p3, p4, pf, p6, pw.to Int, ph.to Int⟩ x
  simp only at o1 o2 o3
  have cpy := fun a b => copy_at (α := Wr) (s := 4) rfl hwi a b
  have cl : ∀ a b, (D.slc a 4 (List.append (D.rows (D.slc b 4 [])) (D.rows wa))).len = wa.len := fun a b => by rw [D.Is.length (α := Wr), (cpy a b).2, l2]
  have cs := fun a b => wr_set2 (cpy a b).1 (i := x.toNat) (by rw [(cpy a b).2]; exact hkx) clk
  have b1 : decide (x < 0) = false := decide_eq_false (by omega)
  have b2 : decide (x ≥ (wa.len : Int)) = false := decide_eq_false (by omega)
  rw [b1, b2]
  have cto : ∀ a b, D.to Wr (D.setCells (D.slc a 4 (List.append (D.rows (D.slc b 4 [])) (D.rows wa))) x.toNat 2 [D.int .i64 clk]) = (wa.to Wr).set x.toNat ⟨((wa.to Wr)[x.toNat]).issued, ((wa.to Wr)[x.toNat]).acked, clk, ((wa.to Wr)[x.toNat]).times⟩ := fun a b => by
   rw [(cs a b).2]; simp only [(cpy a b).2]
  refine ⟨nn, nn, h0, ⟨by omega, by omega, c1.2.2⟩, c2, fun h => absurd h (by decide), fun _ => ⟨nn, fun h => absurd h (by decide), fun _ hs1 => ⟨nn, ⟨rfl, hwi.fits, by simp only [len_slc, List.length_nil]; omega, by simp only [len_slc, List.length_nil]; omega⟩, fun hs2 => ⟨nn, fun hs3 => ⟨nn, ⟨hxr.1, by rw [cl]; omega, rfl⟩, ⟨by rw [cl]; omega, (by decide : 3 ≤ 4), rfl⟩, nn, hx0, fun hs4 => ⟨fun _ => ⟨nn, ⟨(cs _ _).1, ?_, D.like_is _ _, ?_, ?_⟩, fun hs5 => ?_⟩, fun h => absurd (hrt.symm.trans h) (by decide)⟩⟩⟩⟩⟩⟩
  ·rw [D.Is.length (α := Wr), cto, List.length_set]; omega
  ·rw [like_len]; exact Nat.le_trans o3 (by omega)
  ·rw [D.like_to, cto]; exact hX
  ·have hr := And.intro hrt hX
   refine ret_cells ?_
   repeat' first
   | exact .nil
   | refine .cons ?_ ?_
   | exact rfl
   | exact fun _ => rfl
   | exact lst_ok stands_like
   | exact lst_ok (stands_self (by assumption))
   | exact lst_ok (by rw [D.like_to, cto]; exact stands_like)
   | exact bool_ok (by rw [hX, hrt, Bool.and_true, Bool.true_and]; rfl)
   | fail

theorem dur1_ent {w : World} {H : HV} {cn cr cp cdl : Int} {cps css : D} {cv : Bool} {p1 p2 p3 p4 : Int} {pf : Bool} {p6 : Int} {pw ph : D} {q1 q2 q3 q4 : Int} {qf : Bool} {q6 : Int} {qw qh : D} {r1 r2 r3 r4 : Int} {rf : Bool} {r6 : Int} {rw rh : D} {fl wa wb wc : D} {now clk : Int} {rt : Bool} {st : Int} {ew : Int} (hew : U8 ew) (hR : GrRight (cv9 cn cr cp cdl cps css cv p1 p2 p3 p4 pf p6 pw ph q1 q2 q3 q4 qf q6 qw qh r1 r2 r3 r4 rf r6 rw rh fl wa wb wc now clk rt st)) (hr : (durG (grOf (cv9 cn cr cp cdl cps css cv p1 p2 p3 p4 pf p6 pw ph q1 q2 q3 q4 qf q6 qw qh r1 r2 r3 r4 rf r6 rw rh fl wa wb wc now clk rt st)) 1 ew).right = true) :
  Runs Try.prog ⟨w, H⟩ (entry Try.prog 76 [.agg (cl9 cn cr cp cdl cps css cv p1 p2 p3 p4 pf p6 pw ph q1 q2 q3 q4 qf q6 qw qh r1 r2 r3 r4 rf r6 rw rh fl wa wb wc now clk rt st), .int .i64 1, .int .u8 ew]) (RetD w H fun ds => .agg (svOf ds 0 (durG (grOf (cv9 cn cr cp cdl cps css cv p1 p2 p3 p4 pf p6 pw ph q1 q2 q3 q4 qf q6 qw qh r1 r2 r3 r4 rf r6 rw rh fl wa wb wc now clk rt st)) 1 ew).cls)) := by
 have hR0 := hR
 rw [grRight_eq] at hR
 obtain ⟨⟨hc1, hc2⟩, hp, hq, hr', ⟨hf, hfl⟩, ⟨ha, hal⟩, ⟨hb, hbl⟩, ⟨hcc, hcl⟩⟩ := hR
 have hx0 := hq
 have hp' := hp; have hq' := hq; have hr2 := hr'
 obtain ⟨hpw, hph, hpl, hpm⟩ := hp'
 obtain ⟨hqw, hqh, hql, hqm⟩ := hq'
 obtain ⟨hrw, hrh, hrl, hrm⟩ := hr2
 simp only at hpw hph hpl hpm hqw hqh hql hqm hrw hrh hrl hrm
 have hwi : wb.Is Wr := hb
 have l1 := D.Is.length (α := Int) qw
 have l2 := D.Is.length (α := Wr) wb
 have l3 := D.Is.length (α := Int) qh
 apply exec_sound ctGOk 900
 rw [durg1_in]
 have nn : (0 : Int) ≤ 1 ∧ (1 : Int) < ((3 : Nat) : Int) := by omega
 have e1 : IntKind.i64.wrap ew = ew := wrap64 (by have := hew.1; omega) (by have := hew.2; omega)
 rw [e1]
 refine ⟨nn, fun h0 => ?_, fun h0 hs => ?_⟩
 ·have h0 : (((qw.len : Nat)) : Int) = 0 := of_decide_eq_true h0
  have e : durG (grOf (cv9 cn cr cp cdl cps css cv p1 p2 p3 p4 pf p6 pw ph q1 q2 q3 q4 qf q6 qw qh r1 r2 r3 r4 rf r6 rw rh fl wa wb wc now clk rt st)) 1 ew = (grOf (cv9 cn cr cp cdl cps css cv p1 p2 p3 p4 pf p6 pw ph q1 q2 q3 q4 qf q6 qw qh r1 r2 r3 r4 rf r6 rw rh fl wa wb wc now clk rt st)) := durG_nil (by rw [grOf_eq]; simp only [tri_0, tri_1, tri_2]; omega)
  rw [e, grOf_eq, cls_tri]
  have hr : True ∧ True := ⟨trivial, trivial⟩
  refine ret_cells ?_
  repeat' first
  | exact .nil
  | refine .cons ?_ ?_
  | exact rfl
  | exact fun _ => rfl
  | exact lst_ok stands_like
  | exact lst_ok (stands_self (by assumption))
  | exact lst_ok (by rw [D.like_to]; exact stands_like)
  | exact bool_ok (by rw [hr.2, Bool.and_true])
  | fail
 ·have h0 : ¬(((qw.len : Nat)) : Int) = 0 := of_decide_eq_false h0
  have hlp : 0 < (qw.to Int).length := by omega
  have t0 : 0 ≤ Int.tmod ew qw.len := Int.tmod_nonneg _ hew.1
  have t1 : Int.tmod ew qw.len < qw.len := Int.tmod_lt_of_pos _ (by omega)
  obtain ⟨k, hk⟩ : ∃ k : Nat, Int.tmod ew qw.len = k := ⟨(Int.tmod ew qw.len).toNat, by omega⟩
  have hkl : k < (qw.to Int).length := by omega
  obtain ⟨c1, c2, c3⟩ := int_at hqw hkl
  rw [hk, c3]
  obtain ⟨x, hx⟩ : ∃ x, (qw.to Int)[k] = x := ⟨_, rfl⟩
  rw [hx]
  have hk2 : (Int.tmod ew ((qw.to Int).length : Int)).toNat = k := by rw [← l1, hk]; rfl
  have hg : (qw.to Int).getD k 0 = x := by rw [← hx]; simp [hkl]
  have hd : durG (grOf (cv9 cn cr cp cdl cps css cv p1 p2 p3 p4 pf p6 pw ph q1 q2 q3 q4 qf q6 qw qh r1 r2 r3 r4 rf r6 rw rh fl wa wb wc now clk rt st)) 1 ew = if x < 0 ∨ x ≥ (((grOf (cv9 cn cr cp cdl cps css cv p1 p2 p3 p4 pf p6 pw ph q1 q2 q3 q4 qf q6 qw qh r1 r2 r3 r4 rf r6 rw rh fl wa wb wc now clk rt st)).wr 1).length : Int) then { (grOf (cv9 cn cr cp cdl cps css cv p1 p2 p3 p4 pf p6 pw ph q1 q2 q3 q4 qf q6 qw qh r1 r2 r3 r4 rf r6 rw rh fl wa wb wc now clk rt st)) with right := false } else
    ackG { (grOf (cv9 cn cr cp cdl cps css cv p1 p2 p3 p4 pf p6 pw ph q1 q2 q3 q4 qf q6 qw qh r1 r2 r3 r4 rf r6 rw rh fl wa wb wc now clk rt st)) with wr := upd ((grOf (cv9 cn cr cp cdl cps css cv p1 p2 p3 p4 pf p6 pw ph q1 q2 q3 q4 qf q6 qw qh r1 r2 r3 r4 rf r6 rw rh fl wa wb wc now clk rt st))).wr 1 (((grOf (cv9 cn cr cp cdl cps css cv p1 p2 p3 p4 pf p6 pw ph q1 q2 q3 q4 qf q6 qw qh r1 r2 r3 r4 rf r6 rw rh fl wa wb wc now clk rt st)).wr 1).set x.toNat { ((grOf (cv9 cn cr cp cdl cps css cv p1 p2 p3 p4 pf p6 pw ph q1 q2 q3 q4 qf q6 qw qh r1 r2 r3 r4 rf r6 rw rh fl wa wb wc now clk rt st)).wr 1).getD x.toNat noWr with durable := (grOf (cv9 cn cr cp cdl cps css cv p1 p2 p3 p4 pf p6 pw ph q1 q2 q3 q4 qf q6 qw qh r1 r2 r3 r4 rf r6 rw rh fl wa wb wc now clk rt st)).clock }), node := upd ((grOf (cv9 cn cr cp cdl cps css cv p1 p2 p3 p4 pf p6 pw ph q1 q2 q3 q4 qf q6 qw qh r1 r2 r3 r4 rf r6 rw rh fl wa wb wc now clk rt st))).node 1 (durMb ((grOf (cv9 cn cr cp cdl cps css cv p1 p2 p3 p4 pf p6 pw ph q1 q2 q3 q4 qf q6 qw qh r1 r2 r3 r4 rf r6 rw rh fl wa wb wc now clk rt st)).node 1) x).1, right := (grOf (cv9 cn cr cp cdl cps css cv p1 p2 p3 p4 pf p6 pw ph q1 q2 q3 q4 qf q6 qw qh r1 r2 r3 r4 rf r6 rw rh fl wa wb wc now clk rt st)).right && decide ((durMb ((grOf (cv9 cn cr cp cdl cps css cv p1 p2 p3 p4 pf p6 pw ph q1 q2 q3 q4 qf q6 qw qh r1 r2 r3 r4 rf r6 rw rh fl wa wb wc now clk rt st)).node 1) x).2.2 = 0) } 1 (durMb ((grOf (cv9 cn cr cp cdl cps css cv p1 p2 p3 p4 pf p6 pw ph q1 q2 q3 q4 qf q6 qw qh r1 r2 r3 r4 rf r6 rw rh fl wa wb wc now clk rt st)).node 1) x).2.1 :=
   durG_go (k := k) (by rw [grOf_eq]; simp only [tri_0, tri_1, tri_2]; omega) (by rw [grOf_eq]; exact hk2) (by rw [grOf_eq]; exact hg)
  have hwn : (grOf (cv9 cn cr cp cdl cps css cv p1 p2 p3 p4 pf p6 pw ph q1 q2 q3 q4 qf q6 qw qh r1 r2 r3 r4 rf r6 rw rh fl wa wb wc now clk rt st)).wr 1 = wb.to Wr := by rw [grOf_eq]; rfl
  rw [hwn] at hd
  have hxr : 0 ≤ x ∧ x < ((wb.to Wr).length : Int) := by
   rw [hd] at hr
   split at hr
   ·cases hr
   ·omega
  rw [if_neg (by omega)] at hd
  rw [hd] at hr ⊢
  rw [grOf_eq] at hr ⊢
  simp only [ackG, tri_0, tri_1, tri_2, tri_upd0, tri_upd1, tri_upd2, Bool.and_eq_true] at hr
  simp only [ackG, tri_0, tri_1, tri_2, tri_upd0, tri_upd1, tri_upd2, cls_tri]
  obtain ⟨⟨hrt, he⟩, hX⟩ := hr
  have hkx : x.toNat < (wb.to Wr).length := by omega
  have hgw : (wb.to Wr).getD x.toNat noWr = (wb.to Wr)[x.toNat] := by simp [hkx]
  rw [hgw] at hX ⊢
  obtain ⟨o1, o2, o3⟩ := durMb_len ⟨q1, q2, q3, q4, qf, q6, qw.to Int, qh.to Int⟩ x
  simp only at o1 o2 o3
  have cpy := fun a b => copy_at (α := Wr) (s := 4) rfl hwi a b
  have cl : ∀ a b, (D.slc a 4 (List.append (D.rows (D.slc b 4 [])) (D.rows wb))).len = wb.len := fun a b => by rw [D.Is.length (α := Wr), (cpy a b).2, l2]
  have cs := fun a b => wr_set2 (cpy a b).1 (i := x.toNat) (by rw [(cpy a b).2]; exact hkx) clk
  have b1 : decide (x < 0) = false := decide_eq_false (by omega)
  have b2 : decide (x ≥ (wb.len : Int)) = false := decide_eq_false (by omega)
  rw [b1, b2]
  have cto : ∀ a b, D.to Wr (D.setCells (D.slc a 4 (List.append (D.rows (D.slc b 4 [])) (D.rows wb))) x.toNat 2 [D.int .i64 clk]) = (wb.to Wr).set x.toNat ⟨((wb.to Wr)[x.toNat]).issued, ((wb.to Wr)[x.toNat]).acked, clk, ((wb.to Wr)[x.toNat]).times⟩ := fun a b => by
   rw [(cs a b).2]; simp only [(cpy a b).2]
  refine ⟨nn, nn, h0, ⟨by omega, by omega, c1.2.2⟩, c2, fun h => absurd h (by decide), fun _ => ⟨nn, fun h => absurd h (by decide), fun _ hs1 => ⟨nn, ⟨rfl, hwi.fits, by simp only [len_slc, List.length_nil]; omega, by simp only [len_slc, List.length_nil]; omega⟩, fun hs2 => ⟨nn, fun hs3 => ⟨nn, ⟨hxr.1, by rw [cl]; omega, rfl⟩, ⟨by rw [cl]; omega, (by decide : 3 ≤ 4), rfl⟩, nn, hx0, fun hs4 => ⟨fun _ => ⟨nn, ⟨(cs _ _).1, ?_, D.like_is _ _, ?_, ?_⟩, fun hs5 => ?_⟩, fun h => absurd (hrt.symm.trans h) (by decide)⟩⟩⟩⟩⟩⟩
  ·rw [D.Is.length (α := Wr), cto, List.length_set]; omega
  ·rw [like_len]; exact Nat.le_trans o3 (by omega)
  ·rw [D.like_to, cto]; exact hX
  ·have hr := And.intro hrt hX
   refine ret_cells ?_
   repeat' first
   | exact .nil
   | refine .cons ?_ ?_
   | exact rfl
   | exact fun _ => rfl
   | exact lst_ok stands_like
   | exact lst_ok (stands_self (by assumption))
   | exact lst_ok (by rw [D.like_to, cto]; exact stands_like)
   | exact bool_ok (by rw [hX, hrt, Bool.and_true, Bool.true_and]; rfl)
   | fail

theorem dur2_ent {w : World} {H : HV} {cn cr cp cdl : Int} {cps css : D} {cv : Bool} {p1 p2 p3 p4 : Int} {pf : Bool} {p6 : Int} {pw ph : D} {q1 q2 q3 q4 : Int} {qf : Bool} {q6 : Int} {qw qh : D} {r1 r2 r3 r4 : Int} {rf : Bool} {r6 : Int} {rw rh : D} {fl wa wb wc : D} {now clk : Int} {rt : Bool} {st : Int} {ew : Int} (hew : U8 ew) (hR : GrRight (cv9 cn cr cp cdl cps css cv p1 p2 p3 p4 pf p6 pw ph q1 q2 q3 q4 qf q6 qw qh r1 r2 r3 r4 rf r6 rw rh fl wa wb wc now clk rt st)) (hr : (durG (grOf (cv9 cn cr cp cdl cps css cv p1 p2 p3 p4 pf p6 pw ph q1 q2 q3 q4 qf q6 qw qh r1 r2 r3 r4 rf r6 rw rh fl wa wb wc now clk rt st)) 2 ew).right = true) :
  Runs Try.prog ⟨w, H⟩ (entry Try.prog 76 [.agg (cl9 cn cr cp cdl cps css cv p1 p2 p3 p4 pf p6 pw ph q1 q2 q3 q4 qf q6 qw qh r1 r2 r3 r4 rf r6 rw rh fl wa wb wc now clk rt st), .int .i64 2, .int .u8 ew]) (RetD w H fun ds => .agg (svOf ds 0 (durG (grOf (cv9 cn cr cp cdl cps css cv p1 p2 p3 p4 pf p6 pw ph q1 q2 q3 q4 qf q6 qw qh r1 r2 r3 r4 rf r6 rw rh fl wa wb wc now clk rt st)) 2 ew).cls)) := by
 have hR0 := hR
 rw [grRight_eq] at hR
 obtain ⟨⟨hc1, hc2⟩, hp, hq, hr', ⟨hf, hfl⟩, ⟨ha, hal⟩, ⟨hb, hbl⟩, ⟨hcc, hcl⟩⟩ := hR
 have hx0 := hr'
 have hp' := hp; have hq' := hq; have hr2 := hr'
 obtain ⟨hpw, hph, hpl, hpm⟩ := hp'
 obtain ⟨hqw, hqh, hql, hqm⟩ := hq'
 obtain ⟨hrw, hrh, hrl, hrm⟩ := hr2
 simp only at hpw hph hpl hpm hqw hqh hql hqm hrw hrh hrl hrm
 have hwi : wc.Is Wr := hcc
 have l1 := D.Is.length (α := Int) rw
 have l2 := D.Is.length (α := Wr) wc
 have l3 := D.Is.length (α := Int) rh
 apply exec_sound ctGOk 900
 rw [durg2_in]
 have nn : (0 : Int) ≤ 2 ∧ (2 : Int) < ((3 : Nat) : Int) := by omega
 have e1 : IntKind.i64.wrap ew = ew := wrap64 (by have := hew.1; omega) (by have := hew.2; omega)
 rw [e1]
 refine ⟨nn, fun h0 => ?_, fun h0 hs => ?_⟩
 ·have h0 : (((rw.len : Nat)) : Int) = 0 := of_decide_eq_true h0
  have e : durG (grOf (cv9 cn cr cp cdl cps css cv p1 p2 p3 p4 pf p6 pw ph q1 q2 q3 q4 qf q6 qw qh r1 r2 r3 r4 rf r6 rw rh fl wa wb wc now clk rt st)) 2 ew = (grOf (cv9 cn cr cp cdl cps css cv p1 p2 p3 p4 pf p6 pw ph q1 q2 q3 q4 qf q6 qw qh r1 r2 r3 r4 rf r6 rw rh fl wa wb wc now clk rt st)) := durG_nil (by rw [grOf_eq]; simp only [tri_0, tri_1, tri_2]; omega)
  rw [e, grOf_eq, cls_tri]
  have hr : True ∧ True := ⟨trivial, trivial⟩
  refine ret_cells ?_
  repeat' first
  | exact .nil
  | refine .cons ?_ ?_
  | exact rfl
  | exact fun _ => rfl
  | exact lst_ok stands_like
  | exact lst_ok (stands_self (by assumption))
  | exact lst_ok (by rw [D.like_to]; exact stands_like)
  | exact bool_ok (by rw [hr.2, Bool.and_true])
  | fail
 ·have h0 : ¬(((rw.len : Nat)) : Int) = 0 := of_decide_eq_false h0
  have hlp : 0 < (rw.to Int).length := by omega
  have t0 : 0 ≤ Int.tmod ew rw.len := Int.tmod_nonneg _ hew.1
  have t1 : Int.tmod ew rw.len < rw.len := Int.tmod_lt_of_pos _ (by omega)
  obtain ⟨k, hk⟩ : ∃ k : Nat, Int.tmod ew rw.len = k := ⟨(Int.tmod ew rw.len).toNat, by omega⟩
  have hkl : k < (rw.to Int).length := by omega
  obtain ⟨c1, c2, c3⟩ := int_at hrw hkl
  rw [hk, c3]
  obtain ⟨x, hx⟩ : ∃ x, (rw.to Int)[k] = x := ⟨_, rfl⟩
  rw [hx]
  have hk2 : (Int.tmod ew ((rw.to Int).length : Int)).toNat = k := by rw [← l1, hk]; rfl
  have hg : (rw.to Int).getD k 0 = x := by rw [← hx]; simp [hkl]
  have hd : durG (grOf (cv9 cn cr cp cdl cps css cv p1 p2 p3 p4 pf p6 pw ph q1 q2 q3 q4 qf q6 qw qh r1 r2 r3 r4 rf r6 rw rh fl wa wb wc now clk rt st)) 2 ew = if x < 0 ∨ x ≥ (((grOf (cv9 cn cr cp cdl cps css cv p1 p2 p3 p4 pf p6 pw ph q1 q2 q3 q4 qf q6 qw qh r1 r2 r3 r4 rf r6 rw rh fl wa wb wc now clk rt st)).wr 2).length : Int) then { (grOf (cv9 cn cr cp cdl cps css cv p1 p2 p3 p4 pf p6 pw ph q1 q2 q3 q4 qf q6 qw qh r1 r2 r3 r4 rf r6 rw rh fl wa wb wc now clk rt st)) with right := false } else
    ackG { (grOf (cv9 cn cr cp cdl cps css cv p1 p2 p3 p4 pf p6 pw ph q1 q2 q3 q4 qf q6 qw qh r1 r2 r3 r4 rf r6 rw rh fl wa wb wc now clk rt st)) with wr := upd ((grOf (cv9 cn cr cp cdl cps css cv p1 p2 p3 p4 pf p6 pw ph q1 q2 q3 q4 qf q6 qw qh r1 r2 r3 r4 rf r6 rw rh fl wa wb wc now clk rt st))).wr 2 (((grOf (cv9 cn cr cp cdl cps css cv p1 p2 p3 p4 pf p6 pw ph q1 q2 q3 q4 qf q6 qw qh r1 r2 r3 r4 rf r6 rw rh fl wa wb wc now clk rt st)).wr 2).set x.toNat { ((grOf (cv9 cn cr cp cdl cps css cv p1 p2 p3 p4 pf p6 pw ph q1 q2 q3 q4 qf q6 qw qh r1 r2 r3 r4 rf r6 rw rh fl wa wb wc now clk rt st)).wr 2).getD x.toNat noWr with durable := (grOf (cv9 cn cr cp cdl cps css cv p1 p2 p3 p4 pf p6 pw ph q1 q2 q3 q4 qf q6 qw qh r1 r2 r3 r4 rf r6 rw rh fl wa wb wc now clk rt st)).clock }), node := upd ((grOf (cv9 cn cr cp cdl cps css cv p1 p2 p3 p4 pf p6 pw ph q1 q2 q3 q4 qf q6 qw qh r1 r2 r3 r4 rf r6 rw rh fl wa wb wc now clk rt st))).node 2 (durMb ((grOf (cv9 cn cr cp cdl cps css cv p1 p2 p3 p4 pf p6 pw ph q1 q2 q3 q4 qf q6 qw qh r1 r2 r3 r4 rf r6 rw rh fl wa wb wc now clk rt st)).node 2) x).1, right := (grOf (cv9 cn cr cp cdl cps css cv p1 p2 p3 p4 pf p6 pw ph q1 q2 q3 q4 qf q6 qw qh r1 r2 r3 r4 rf r6 rw rh fl wa wb wc now clk rt st)).right && decide ((durMb ((grOf (cv9 cn cr cp cdl cps css cv p1 p2 p3 p4 pf p6 pw ph q1 q2 q3 q4 qf q6 qw qh r1 r2 r3 r4 rf r6 rw rh fl wa wb wc now clk rt st)).node 2) x).2.2 = 0) } 2 (durMb ((grOf (cv9 cn cr cp cdl cps css cv p1 p2 p3 p4 pf p6 pw ph q1 q2 q3 q4 qf q6 qw qh r1 r2 r3 r4 rf r6 rw rh fl wa wb wc now clk rt st)).node 2) x).2.1 :=
   durG_go (k := k) (by rw [grOf_eq]; simp only [tri_0, tri_1, tri_2]; omega) (by rw [grOf_eq]; exact hk2) (by rw [grOf_eq]; exact hg)
  have hwn : (grOf (cv9 cn cr cp cdl cps css cv p1 p2 p3 p4 pf p6 pw ph q1 q2 q3 q4 qf q6 qw qh r1 r2 r3 r4 rf r6 rw rh fl wa wb wc now clk rt st)).wr 2 = wc.to Wr := by rw [grOf_eq]; rfl
  rw [hwn] at hd
  have hxr : 0 ≤ x ∧ x < ((wc.to Wr).length : Int) := by
   rw [hd] at hr
   split at hr
   ·cases hr
   ·omega
  rw [if_neg (by omega)] at hd
  rw [hd] at hr ⊢
  rw [grOf_eq] at hr ⊢
  simp only [ackG, tri_0, tri_1, tri_2, tri_upd0, tri_upd1, tri_upd2, Bool.and_eq_true] at hr
  simp only [ackG, tri_0, tri_1, tri_2, tri_upd0, tri_upd1, tri_upd2, cls_tri]
  obtain ⟨⟨hrt, he⟩, hX⟩ := hr
  have hkx : x.toNat < (wc.to Wr).length := by omega
  have hgw : (wc.to Wr).getD x.toNat noWr = (wc.to Wr)[x.toNat] := by simp [hkx]
  rw [hgw] at hX ⊢
  obtain ⟨o1, o2, o3⟩ := durMb_len ⟨r1, r2, r3, r4, rf, r6, rw.to Int, rh.to Int⟩ x
  simp only at o1 o2 o3
  have cpy := fun a b => copy_at (α := Wr) (s := 4) rfl hwi a b
  have cl : ∀ a b, (D.slc a 4 (List.append (D.rows (D.slc b 4 [])) (D.rows wc))).len = wc.len := fun a b => by rw [D.Is.length (α := Wr), (cpy a b).2, l2]
  have cs := fun a b => wr_set2 (cpy a b).1 (i := x.toNat) (by rw [(cpy a b).2]; exact hkx) clk
  have b1 : decide (x < 0) = false := decide_eq_false (by omega)
  have b2 : decide (x ≥ (wc.len : Int)) = false := decide_eq_false (by omega)
  rw [b1, b2]
  have cto : ∀ a b, D.to Wr (D.setCells (D.slc a 4 (List.append (D.rows (D.slc b 4 [])) (D.rows wc))) x.toNat 2 [D.int .i64 clk]) = (wc.to Wr).set x.toNat ⟨((wc.to Wr)[x.toNat]).issued, ((wc.to Wr)[x.toNat]).acked, clk, ((wc.to Wr)[x.toNat]).times⟩ := fun a b => by
   rw [(cs a b).2]; simp only [(cpy a b).2]
  refine ⟨nn, nn, h0, ⟨by omega, by omega, c1.2.2⟩, c2, fun h => absurd h (by decide), fun _ => ⟨nn, fun h => absurd h (by decide), fun _ hs1 => ⟨nn, ⟨rfl, hwi.fits, by simp only [len_slc, List.length_nil]; omega, by simp only [len_slc, List.length_nil]; omega⟩, fun hs2 => ⟨nn, fun hs3 => ⟨nn, ⟨hxr.1, by rw [cl]; omega, rfl⟩, ⟨by rw [cl]; omega, (by decide : 3 ≤ 4), rfl⟩, nn, hx0, fun hs4 => ⟨fun _ => ⟨nn, ⟨(cs _ _).1, ?_, D.like_is _ _, ?_, ?_⟩, fun hs5 => ?_⟩, fun h => absurd (hrt.symm.trans h) (by decide)⟩⟩⟩⟩⟩⟩
  ·rw [D.Is.length (α := Wr), cto, List.length_set]; omega
  ·rw [like_len]; exact Nat.le_trans o3 (by omega)
  ·rw [D.like_to, cto]; exact hX
  ·have hr := And.intro hrt hX
   refine ret_cells ?_
   repeat' first
   | exact .nil
   | refine .cons ?_ ?_
   | exact rfl
   | exact fun _ => rfl
   | exact lst_ok stands_like
   | exact lst_ok (stands_self (by assumption))
   | exact lst_ok (by rw [D.like_to, cto]; exact stands_like)
   | exact bool_ok (by rw [hX, hrt, Bool.and_true, Bool.true_and]; rfl)
   | fail

theorem spDurG_eq0 {cn cr cp cdl : Int} {cps css : D} {cv : Bool} {p1 p2 p3 p4 : Int} {pf : Bool} {p6 : Int} {pw ph : D} {q1 q2 q3 q4 : Int} {qf : Bool} {q6 : Int} {qw qh : D} {r1 r2 r3 r4 : Int} {rf : Bool} {r6 : Int} {rw rh : D} {fl wa wb wc : D} {now clk : Int} {rt : Bool} {st : Int} {ew : Int} (h : ShapeC grK (cv9 cn cr cp cdl cps css cv p1 p2 p3 p4 pf p6 pw ph q1 q2 q3 q4 qf q6 qw qh r1 r2 r3 r4 rf r6 rw rh fl wa wb wc now clk rt st)) : spDurG (⟨(cv9 cn cr cp cdl cps css cv p1 p2 p3 p4 pf p6 pw ph q1 q2 q3 q4 qf q6 qw qh r1 r2 r3 r4 rf r6 rw rh fl wa wb wc now clk rt st), h⟩, Int.ofNat 0, ew) = grSp (cv9 cn cr cp cdl cps css cv p1 p2 p3 p4 pf p6 pw ph q1 q2 q3 q4 qf q6 qw qh r1 r2 r3 r4 rf r6 rw rh fl wa wb wc now clk rt st) (U8 ew) (durG (grOf (cv9 cn cr cp cdl cps css cv p1 p2 p3 p4 pf p6 pw ph q1 q2 q3 q4 qf q6 qw qh r1 r2 r3 r4 rf r6 rw rh fl wa wb wc now clk rt st)) 0 ew) := by kernel_rfl
theorem spDurG_eq1 {cn cr cp cdl : Int} {cps css : D} {cv : Bool} {p1 p2 p3 p4 : Int} {pf : Bool} {p6 : Int} {pw ph : D} {q1 q2 q3 q4 : Int} {qf : Bool} {q6 : Int} {qw qh : D} {r1 r2 r3 r4 : Int} {rf : Bool} {r6 : Int} {rw rh : D} {fl wa wb wc : D} {now clk : Int} {rt : Bool} {st : Int} {ew : Int} (h : ShapeC grK (cv9 cn cr cp cdl cps css cv p1 p2 p3 p4 pf p6 pw ph q1 q2 q3 q4 qf q6 qw qh r1 r2 r3 r4 rf r6 rw rh fl wa wb wc now clk rt st)) : spDurG (⟨(cv9 cn cr cp cdl cps css cv p1 p2 p3 p4 pf p6 pw ph q1 q2 q3 q4 qf q6 qw qh r1 r2 r3 r4 rf r6 rw rh fl wa wb wc now clk rt st), h⟩, Int.ofNat 1, ew) = grSp (cv9 cn cr cp cdl cps css cv p1 p2 p3 p4 pf p6 pw ph q1 q2 q3 q4 qf q6 qw qh r1 r2 r3 r4 rf r6 rw rh fl wa wb wc now clk rt st) (U8 ew) (durG (grOf (cv9 cn cr cp cdl cps css cv p1 p2 p3 p4 pf p6 pw ph q1 q2 q3 q4 qf q6 qw qh r1 r2 r3 r4 rf r6 rw rh fl wa wb wc now clk rt st)) 1 ew) := by kernel_rfl
theorem spDurG_eq2 {cn cr cp cdl : Int} {cps css : D} {cv : Bool} {p1 p2 p3 p4 : Int} {pf : Bool} {p6 : Int} {pw ph : D} {q1 q2 q3 q4 : Int} {qf : Bool} {q6 : Int} {qw qh : D} {r1 r2 r3 r4 : Int} {rf : Bool} {r6 : Int} {rw rh : D} {fl wa wb wc : D} {now clk : Int} {rt : Bool} {st : Int} {ew : Int} (h : ShapeC grK (cv9 cn cr cp cdl cps css cv p1 p2 p3 p4 pf p6 pw ph q1 q2 q3 q4 qf q6 qw qh r1 r2 r3 r4 rf r6 rw rh fl wa wb wc now clk rt st)) : spDurG (⟨(cv9 cn cr cp cdl cps css cv p1 p2 p3 p4 pf p6 pw ph q1 q2 q3 q4 qf q6 qw qh r1 r2 r3 r4 rf r6 rw rh fl wa wb wc now clk rt st), h⟩, Int.ofNat 2, ew) = grSp (cv9 cn cr cp cdl cps css cv p1 p2 p3 p4 pf p6 pw ph q1 q2 q3 q4 qf q6 qw qh r1 r2 r3 r4 rf r6 rw rh fl wa wb wc now clk rt st) (U8 ew) (durG (grOf (cv9 cn cr cp cdl cps css cv p1 p2 p3 p4 pf p6 pw ph q1 q2 q3 q4 qf q6 qw qh r1 r2 r3 r4 rf r6 rw rh fl wa wb wc now clk rt st)) 2 ew) := by kernel_rfl
theorem spDurG_no {cn cr cp cdl : Int} {cps css : D} {cv : Bool} {p1 p2 p3 p4 : Int} {pf : Bool} {p6 : Int} {pw ph : D} {q1 q2 q3 q4 : Int} {qf : Bool} {q6 : Int} {qw qh : D} {r1 r2 r3 r4 : Int} {rf : Bool} {r6 : Int} {rw rh : D} {fl wa wb wc : D} {now clk : Int} {rt : Bool} {st : Int} {ew n : Int} (h : ShapeC grK (cv9 cn cr cp cdl cps css cv p1 p2 p3 p4 pf p6 pw ph q1 q2 q3 q4 qf q6 qw qh r1 r2 r3 r4 rf r6 rw rh fl wa wb wc now clk rt st)) (h0 : n ≠ 0) (h1 : n ≠ 1) (h2 : n ≠ 2) : spDurG (⟨(cv9 cn cr cp cdl cps css cv p1 p2 p3 p4 pf p6 pw ph q1 q2 q3 q4 qf q6 qw qh r1 r2 r3 r4 rf r6 rw rh fl wa wb wc now clk rt st), h⟩, n, ew) = .no := by
 match n, h0, h1, h2 with
 | .ofNat 0, h0, _, _ => exact absurd rfl h0
 | .ofNat 1, _, h1, _ => exact absurd rfl h1
 | .ofNat 2, _, _, h2 => exact absurd rfl h2
 | .ofNat (m + 3), _, _, _ => rfl
 | .negSucc _, _, _, _ => rfl

theorem lawDurG : Law Try.prog 76 (((rdCells grK).three rdInt rdU8).sp spDurG) := by
 refine law_in _ (by kernel_rfl) fun H w ⟨⟨cs, hsh⟩, node, ew⟩ hok => ?_
 obtain ⟨cn, cr, cp, cdl, cps, css, cv, p1, p2, p3, p4, pf, p6, pw, ph, q1, q2, q3, q4, qf, q6, qw, qh, r1, r2, r3, r4, rf, r6, rw, rh, fl, wa, wb, wc, now, clk, rt, st, rfl⟩ := gr_shape hsh
 by_cases e0 : node = 0
 ·subst e0
  rw [show (0 : Int) = Int.ofNat 0 from rfl, spDurG_eq0]
  intro hp
  obtain ⟨h1, h2, h3⟩ := hp _ (List.mem_singleton.2 rfl)
  exact dur0_ent h2 h1 h3
 by_cases e1 : node = 1
 ·subst e1
  rw [show (1 : Int) = Int.ofNat 1 from rfl, spDurG_eq1]
  intro hp
  obtain ⟨h1, h2, h3⟩ := hp _ (List.mem_singleton.2 rfl)
  exact dur1_ent h2 h1 h3
 by_cases e2 : node = 2
 ·subst e2
  rw [show (2 : Int) = Int.ofNat 2 from rfl, spDurG_eq2]
  intro hp
  obtain ⟨h1, h2, h3⟩ := hp _ (List.mem_singleton.2 rfl)
  exact dur2_ent h2 h1 h3
 ·rw [spDurG_no hsh e0 e1 e2]
  trivial
end Go.Proofs.Ytoechplbhbalaaa
end
section
open Go Go.Proofs Sx
namespace Go.Proofs.Ytoechplbhbalaaa
noncomputable def ctR : Ctrs := (79, ctrOf (((rdCells grK).two rdMsg).sp spRecv)) :: (76, ctrOf (((rdCells grK).three rdInt rdU8).sp spDurG)) :: (47, ctrOf (((rdCells grK).two rdEv).sp spTick)) :: ctG
theorem ctROk : Ctrs.Ok Try.prog ctR := by
 intro x hx
 rcases List.mem_cons.1 hx with rfl | hx
 ·exact ctrOf_ok lawRecv
 rcases List.mem_cons.1 hx with rfl | hx
 ·exact ctrOf_ok lawDurG
 rcases List.mem_cons.1 hx with rfl | hx
 ·exact ctrOf_ok lawTick
 ·exact ctGOk _ hx
end Go.Proofs.Ytoechplbhbalaaa
end
section
open Go Go.Proofs Sx
namespace Go.Proofs.Ytoechplbhbalaaa
set_option maxRecDepth 100000
set_option maxHeartbeats 0
noncomputable def stepL (cn cr cp cdl : Int) (cps css : D) (cv : Bool) (p1 p2 p3 p4 : Int) (pf : Bool) (p6 : Int) (pw ph : D) (q1 q2 q3 q4 : Int) (qf : Bool) (q6 : Int) (qw qh : D) (r1 r2 r3 r4 : Int) (rf : Bool) (r6 : Int) (rw rh : D) (fl wa wb wc : D) (now clk : Int) (rt : Bool) (st : Int) (ek en ew node : Int) : Conf := Conf.mk (SFrm.mk 45 none none [Item.code (cAt Try.prog 45 [1, 1, 0]), Item.code (cAt Try.prog 45 [1, 1, 1])] (mkJ 0 [(2, .ptr 0 0), (3, .ptr 1 0), (4, .ptr 2 0), (5, .int .i64 node)] 0 108)) []
 [(0, .cells 97 (cl9 cn cr cp cdl cps css cv p1 p2 p3 p4 pf p6 pw ph q1 q2 q3 q4 qf q6 qw qh r1 r2 r3 r4 rf r6 rw rh fl wa wb wc now clk rt st)), (1, .cells 101 [.int .u8 ek, .int .u8 en, .int .u8 ew]), (2, .cells 97 grZero)]
section
variable (cn cr cp cdl : Int) (cps css : D) (cv : Bool) (p1 p2 p3 p4 : Int) (pf : Bool) (p6 : Int) (pw ph : D) (q1 q2 q3 q4 : Int) (qf : Bool) (q6 : Int) (qw qh : D) (r1 r2 r3 r4 : Int) (rf : Bool) (r6 : Int) (rw rh : D) (fl wa wb wc : D) (now clk : Int) (rt : Bool) (st : Int) (ek en ew : Int)
theorem flight_in : 
 let z3 := (D.sub fl (Int.toNat (IntKind.wrap .i64 (Int.tmod (IntKind.wrap .i64 ew) (↑(D.len fl) : Int) + 1))) (Int.toNat (↑(D.len fl) : Int)))
 let z5 : Tree := (.ret (.agg [.int .i64 cn, .int .i64 cr, .int .i64 cp, .int .i64 cdl, .dat cps, .dat css, .bool cv, .int .i64 p1, .int .i64 p2, .int .i64 p3, .int .i64 p4, .bool pf, .int .i64 p6, .dat pw, .dat ph, .int .i64 q1, .int .i64 q2, .int .i64 q3, .int .i64 q4, .bool qf, .int .i64 q6, .dat qw, .dat qh, .int .i64 r1, .int .i64 r2, .int .i64 r3, .int .i64 r4, .bool rf, .int .i64 r6, .dat rw, .dat rh, .dat fl, .dat wa, .dat wb, .dat wc, .int .i64 now, .int .i64 clk, .bool rt, .int .i64 st]))
 let z6 := (Int.toNat (Int.tmod (IntKind.wrap .i64 ew) (↑(D.len fl) : Int)))
 let z1 := (MsgD.msg (MsgD.mk (D.getInt fl z6 0) (D.getInt fl z6 1) (D.getInt fl z6 2) (D.getInt fl z6 3) (D.getInt fl z6 4) (D.getInt fl z6 5) (D.cell fl z6 6) (D.cell fl z6 7)))
 let z4 := (D.rows (D.sub fl 0 z6))
 let z7 : List CV := [.int cn, .int cr, .int cp, .int cdl, .dat cps, .dat css, .bool cv, .int p1, .int p2, .int p3, .int p4, .bool pf, .int p6, .dat pw, .dat ph, .int q1, .int q2, .int q3, .int q4, .bool qf, .int q6, .dat qw, .dat qh, .int r1, .int r2, .int r3, .int r4, .bool rf, .int r6, .dat rw, .dat rh, .dat fl, .dat wa, .dat wb, .dat wc, .int now, .int clk, .bool rt, .int st]
 let z2 := (recvG (grOf z7) z1)
 exec Try.prog ctR 900 (entry Try.prog 48 [.agg (cl9 cn cr cp cdl cps css cv p1 p2 p3 p4 pf p6 pw ph q1 q2 q3 q4 qf q6 qw qh r1 r2 r3 r4 rf r6 rw rh fl wa wb wc now clk rt st), .agg [.int .u8 ek, .int .u8 en, .int .u8 ew]]) =
 Tree.br (decide ((↑(D.len fl) : Int) = 0)) z5 (.need ((↑(D.len fl) : Int) ≠ 0) (.need (0 ≤ Int.tmod (IntKind.wrap .i64 ew) (↑(D.len fl) : Int) ∧ Int.tmod (IntKind.wrap .i64 ew) (↑(D.len fl) : Int) < (↑(D.len fl) : Int) ∧ D.sz fl = 8)
 (.need (D.HasCells fl z6 0 [FT.int .i64, FT.int .i64, FT.int .i64, FT.int .i64, FT.int .i64, FT.int .i64, FT.slc, FT.slc]) (.need ((7 : Int) ≠ 0) (.br (Int.tmod ek 7 != 4) (.all fun hs => .need (0 ≤ (↑0 : Int) ∧
 (↑0 : Int) ≤ Int.tmod (IntKind.wrap .i64 ew) (↑(D.len fl) : Int) ∧ Int.tmod (IntKind.wrap .i64 ew) (↑(D.len fl) : Int) ≤ (↑(D.len fl) : Int) ∧ D.Fits fl 8) (.need (D.sz (D.slc (D.hd (hs 0 0)) 8 []) = 8 ∧ D.Fits
 (D.sub fl 0 z6) 8 ∧ (D.len (D.slc (D.hd (hs 0 0)) 8 []) + D.len (D.sub fl 0 z6)) * 96 ≤ 140737488355328 ∧ D.len (D.slc (D.hd (hs 0 0)) 8 []) + D.len (D.sub fl 0 z6) ≤ 9223372036854775807) (.need (0 ≤ IntKind.wrap .i64
 (Int.tmod (IntKind.wrap .i64 ew) (↑(D.len fl) : Int) + 1) ∧ IntKind.wrap .i64 (Int.tmod (IntKind.wrap .i64 ew) (↑(D.len fl) : Int) + 1) ≤ (↑(D.len fl) : Int) ∧ (↑(D.len fl) : Int) ≤ (↑(D.len fl) : Int) ∧ D.Fits fl 8)
 (.need (D.sz (D.slc (D.hd (hs 5 0)) 8 (List.append (D.rows (D.slc (D.hd (hs 0 0)) 8 [])) z4)) = 8 ∧ D.Fits z3 8 ∧ (D.len (D.slc (D.hd (hs 5 0)) 8 (List.append (D.rows (D.slc (D.hd (hs 0 0)) 8 [])) z4)) + D.len z3) * 96 ≤ 140737488355328 ∧ D.len
 (D.slc (D.hd (hs 5 0)) 8 (List.append (D.rows (D.slc (D.hd (hs 0 0)) 8 [])) z4)) + D.len z3 ≤ 9223372036854775807) (.need ((7 : Int) ≠ 0) (.br (decide (Int.tmod ek 7 = 5)) (.ret (.agg [.int .i64 cn, .int .i64 cr, .int .i64 cp, .int .i64 cdl, .dat cps, .dat css, .bool cv, .int .i64 p1, .int .i64 p2, .int .i64 p3, .int .i64 p4, .bool pf, .int .i64 p6, .dat pw, .dat ph, .int .i64 q1, .int .i64 q2, .int .i64 q3, .int .i64 q4, .bool qf, .int .i64 q6, .dat qw, .dat qh, .int .i64 r1, .int .i64 r2, .int .i64 r3, .int .i64 r4, .bool rf, .int .i64 r6, .dat rw, .dat rh, .dat
 (D.slc (D.hd (hs 11 0)) 8 (List.append (D.rows (D.slc (D.hd (hs 5 0)) 8 (List.append (D.rows (D.slc (D.hd (hs 0 0)) 8 [])) z4))) (D.rows z3))), .dat wa, .dat wb, .dat wc, .int .i64 now, .int .i64 clk, .bool rt, .int .i64 st]))
 (.need (GrRight [.int cn, .int cr, .int cp, .int cdl, .dat cps, .dat css, .bool cv, .int p1, .int p2, .int p3, .int p4, .bool pf, .int p6, .dat pw, .dat ph, .int q1, .int q2, .int q3, .int q4, .bool qf, .int q6, .dat qw, .dat qh, .int r1, .int r2, .int r3, .int r4, .bool rf, .int r6, .dat rw, .dat rh, .dat
 (D.slc (D.hd (hs 11 0)) 8 (List.append (D.rows (D.slc (D.hd (hs 5 0)) 8 (List.append (D.rows (D.slc (D.hd (hs 0 0)) 8 [])) z4))) (D.rows z3))), .dat wa, .dat wb, .dat wc, .int now, .int clk, .bool rt, .int st] ∧ True ∧ Gr.right
 (recvG (grOf [.int cn, .int cr, .int cp, .int cdl, .dat cps, .dat css, .bool cv, .int p1, .int p2, .int p3, .int p4, .bool pf, .int p6, .dat pw, .dat ph, .int q1, .int q2, .int q3, .int q4, .bool qf, .int q6, .dat qw, .dat qh, .int r1, .int r2, .int r3, .int r4, .bool rf, .int r6, .dat rw, .dat rh, .dat
 (D.slc (D.hd (hs 11 0)) 8 (List.append (D.rows (D.slc (D.hd (hs 5 0)) 8 (List.append (D.rows (D.slc (D.hd (hs 0 0)) 8 [])) z4))) (D.rows z3))), .dat wa, .dat wb, .dat wc, .int now, .int clk, .bool rt, .int st]) z1) = true)
 (.all fun hs_1 => .ret (.agg [.int .i64 (Co.nodes (Gr.c (recvG (grOf [.int cn, .int cr, .int cp, .int cdl, .dat cps, .dat css, .bool cv, .int p1, .int p2, .int p3, .int p4, .bool pf, .int p6, .dat pw, .dat ph, .int q1, .int q2, .int q3, .int q4, .bool qf, .int q6, .dat qw, .dat qh, .int r1, .int r2, .int r3, .int r4, .bool rf, .int r6, .dat rw, .dat rh, .dat
 (D.slc (D.hd (hs 11 0)) 8 (List.append (D.rows (D.slc (D.hd (hs 5 0)) 8 (List.append (D.rows (D.slc (D.hd (hs 0 0)) 8 [])) z4))) (D.rows z3))), .dat wa, .dat wb, .dat wc, .int now, .int clk, .bool rt, .int st]) z1))), .int .i64
 (Co.round (Gr.c (recvG (grOf [.int cn, .int cr, .int cp, .int cdl, .dat cps, .dat css, .bool cv, .int p1, .int p2, .int p3, .int p4, .bool pf, .int p6, .dat pw, .dat ph, .int q1, .int q2, .int q3, .int q4, .bool qf, .int q6, .dat qw, .dat qh, .int r1, .int r2, .int r3, .int r4, .bool rf, .int r6, .dat rw, .dat rh, .dat
 (D.slc (D.hd (hs 11 0)) 8 (List.append (D.rows (D.slc (D.hd (hs 5 0)) 8 (List.append (D.rows (D.slc (D.hd (hs 0 0)) 8 [])) z4))) (D.rows z3))), .dat wa, .dat wb, .dat wc, .int now, .int clk, .bool rt, .int st]) z1))), .int .i64
 (Co.phase (Gr.c (recvG (grOf [.int cn, .int cr, .int cp, .int cdl, .dat cps, .dat css, .bool cv, .int p1, .int p2, .int p3, .int p4, .bool pf, .int p6, .dat pw, .dat ph, .int q1, .int q2, .int q3, .int q4, .bool qf, .int q6, .dat qw, .dat qh, .int r1, .int r2, .int r3, .int r4, .bool rf, .int r6, .dat rw, .dat rh, .dat
 (D.slc (D.hd (hs 11 0)) 8 (List.append (D.rows (D.slc (D.hd (hs 5 0)) 8 (List.append (D.rows (D.slc (D.hd (hs 0 0)) 8 [])) z4))) (D.rows z3))), .dat wa, .dat wb, .dat wc, .int now, .int clk, .bool rt, .int st]) z1))), .int .i64
 (Co.deadline (Gr.c (recvG (grOf [.int cn, .int cr, .int cp, .int cdl, .dat cps, .dat css, .bool cv, .int p1, .int p2, .int p3, .int p4, .bool pf, .int p6, .dat pw, .dat ph, .int q1, .int q2, .int q3, .int q4, .bool qf, .int q6, .dat qw, .dat qh, .int r1, .int r2, .int r3, .int r4, .bool rf, .int r6, .dat rw, .dat rh, .dat
 (D.slc (D.hd (hs 11 0)) 8 (List.append (D.rows (D.slc (D.hd (hs 5 0)) 8 (List.append (D.rows (D.slc (D.hd (hs 0 0)) 8 [])) z4))) (D.rows z3))), .dat wa, .dat wb, .dat wc, .int now, .int clk, .bool rt, .int st]) z1))), .dat
 (D.like (hs_1 0 0) (Co.positions (Gr.c (recvG (grOf [.int cn, .int cr, .int cp, .int cdl, .dat cps, .dat css, .bool cv, .int p1, .int p2, .int p3, .int p4, .bool pf, .int p6, .dat pw, .dat ph, .int q1, .int q2, .int q3, .int q4, .bool qf, .int q6, .dat qw, .dat qh, .int r1, .int r2, .int r3, .int r4, .bool rf, .int r6, .dat rw, .dat rh, .dat
 (D.slc (D.hd (hs 11 0)) 8 (List.append (D.rows (D.slc (D.hd (hs 5 0)) 8 (List.append (D.rows (D.slc (D.hd (hs 0 0)) 8 [])) z4))) (D.rows z3))), .dat wa, .dat wb, .dat wc, .int now, .int clk, .bool rt, .int st]) z1)))), .dat
 (D.like (hs_1 0 1) (Co.seen (Gr.c (recvG (grOf [.int cn, .int cr, .int cp, .int cdl, .dat cps, .dat css, .bool cv, .int p1, .int p2, .int p3, .int p4, .bool pf, .int p6, .dat pw, .dat ph, .int q1, .int q2, .int q3, .int q4, .bool qf, .int q6, .dat qw, .dat qh, .int r1, .int r2, .int r3, .int r4, .bool rf, .int r6, .dat rw, .dat rh, .dat
 (D.slc (D.hd (hs 11 0)) 8 (List.append (D.rows (D.slc (D.hd (hs 5 0)) 8 (List.append (D.rows (D.slc (D.hd (hs 0 0)) 8 [])) z4))) (D.rows z3))), .dat wa, .dat wb, .dat wc, .int now, .int clk, .bool rt, .int st]) z1)))), .bool
 (Co.valid (Gr.c (recvG (grOf [.int cn, .int cr, .int cp, .int cdl, .dat cps, .dat css, .bool cv, .int p1, .int p2, .int p3, .int p4, .bool pf, .int p6, .dat pw, .dat ph, .int q1, .int q2, .int q3, .int q4, .bool qf, .int q6, .dat qw, .dat qh, .int r1, .int r2, .int r3, .int r4, .bool rf, .int r6, .dat rw, .dat rh, .dat
 (D.slc (D.hd (hs 11 0)) 8 (List.append (D.rows (D.slc (D.hd (hs 5 0)) 8 (List.append (D.rows (D.slc (D.hd (hs 0 0)) 8 [])) z4))) (D.rows z3))), .dat wa, .dat wb, .dat wc, .int now, .int clk, .bool rt, .int st]) z1))), .int .i64
 (Mb.round (Gr.node (recvG (grOf [.int cn, .int cr, .int cp, .int cdl, .dat cps, .dat css, .bool cv, .int p1, .int p2, .int p3, .int p4, .bool pf, .int p6, .dat pw, .dat ph, .int q1, .int q2, .int q3, .int q4, .bool qf, .int q6, .dat qw, .dat qh, .int r1, .int r2, .int r3, .int r4, .bool rf, .int r6, .dat rw, .dat rh, .dat
 (D.slc (D.hd (hs 11 0)) 8 (List.append (D.rows (D.slc (D.hd (hs 5 0)) 8 (List.append (D.rows (D.slc (D.hd (hs 0 0)) 8 [])) z4))) (D.rows z3))), .dat wa, .dat wb, .dat wc, .int now, .int clk, .bool rt, .int st]) z1)
 (Fin.ofNat 3 0))), .int .i64 (Mb.position (Gr.node (recvG (grOf [.int cn, .int cr, .int cp, .int cdl, .dat cps, .dat css, .bool cv, .int p1, .int p2, .int p3, .int p4, .bool pf, .int p6, .dat pw, .dat ph, .int q1, .int q2, .int q3, .int q4, .bool qf, .int q6, .dat qw, .dat qh, .int r1, .int r2, .int r3, .int r4, .bool rf, .int r6, .dat rw, .dat rh, .dat
 (D.slc (D.hd (hs 11 0)) 8 (List.append (D.rows (D.slc (D.hd (hs 5 0)) 8 (List.append (D.rows (D.slc (D.hd (hs 0 0)) 8 [])) z4))) (D.rows z3))), .dat wa, .dat wb, .dat wc, .int now, .int clk, .bool rt, .int st]) z1)
 (Fin.ofNat 3 0))), .int .i64 (Mb.thawed (Gr.node (recvG (grOf [.int cn, .int cr, .int cp, .int cdl, .dat cps, .dat css, .bool cv, .int p1, .int p2, .int p3, .int p4, .bool pf, .int p6, .dat pw, .dat ph, .int q1, .int q2, .int q3, .int q4, .bool qf, .int q6, .dat qw, .dat qh, .int r1, .int r2, .int r3, .int r4, .bool rf, .int r6, .dat rw, .dat rh, .dat
 (D.slc (D.hd (hs 11 0)) 8 (List.append (D.rows (D.slc (D.hd (hs 5 0)) 8 (List.append (D.rows (D.slc (D.hd (hs 0 0)) 8 [])) z4))) (D.rows z3))), .dat wa, .dat wb, .dat wc, .int now, .int clk, .bool rt, .int st]) z1)
 (Fin.ofNat 3 0))), .int .i64 (Mb.issued (Gr.node (recvG (grOf [.int cn, .int cr, .int cp, .int cdl, .dat cps, .dat css, .bool cv, .int p1, .int p2, .int p3, .int p4, .bool pf, .int p6, .dat pw, .dat ph, .int q1, .int q2, .int q3, .int q4, .bool qf, .int q6, .dat qw, .dat qh, .int r1, .int r2, .int r3, .int r4, .bool rf, .int r6, .dat rw, .dat rh, .dat
 (D.slc (D.hd (hs 11 0)) 8 (List.append (D.rows (D.slc (D.hd (hs 5 0)) 8 (List.append (D.rows (D.slc (D.hd (hs 0 0)) 8 [])) z4))) (D.rows z3))), .dat wa, .dat wb, .dat wc, .int now, .int clk, .bool rt, .int st]) z1)
 (Fin.ofNat 3 0))), .bool (Mb.frozen (Gr.node (recvG (grOf [.int cn, .int cr, .int cp, .int cdl, .dat cps, .dat css, .bool cv, .int p1, .int p2, .int p3, .int p4, .bool pf, .int p6, .dat pw, .dat ph, .int q1, .int q2, .int q3, .int q4, .bool qf, .int q6, .dat qw, .dat qh, .int r1, .int r2, .int r3, .int r4, .bool rf, .int r6, .dat rw, .dat rh, .dat
 (D.slc (D.hd (hs 11 0)) 8 (List.append (D.rows (D.slc (D.hd (hs 5 0)) 8 (List.append (D.rows (D.slc (D.hd (hs 0 0)) 8 [])) z4))) (D.rows z3))), .dat wa, .dat wb, .dat wc, .int now, .int clk, .bool rt, .int st]) z1)
 (Fin.ofNat 3 0))), .int .i64 (Mb.upto (Gr.node (recvG (grOf [.int cn, .int cr, .int cp, .int cdl, .dat cps, .dat css, .bool cv, .int p1, .int p2, .int p3, .int p4, .bool pf, .int p6, .dat pw, .dat ph, .int q1, .int q2, .int q3, .int q4, .bool qf, .int q6, .dat qw, .dat qh, .int r1, .int r2, .int r3, .int r4, .bool rf, .int r6, .dat rw, .dat rh, .dat
 (D.slc (D.hd (hs 11 0)) 8 (List.append (D.rows (D.slc (D.hd (hs 5 0)) 8 (List.append (D.rows (D.slc (D.hd (hs 0 0)) 8 [])) z4))) (D.rows z3))), .dat wa, .dat wb, .dat wc, .int now, .int clk, .bool rt, .int st]) z1)
 (Fin.ofNat 3 0))), .dat (D.like (hs_1 0 2) (Mb.waiting (Gr.node (recvG (grOf [.int cn, .int cr, .int cp, .int cdl, .dat cps, .dat css, .bool cv, .int p1, .int p2, .int p3, .int p4, .bool pf, .int p6, .dat pw, .dat ph, .int q1, .int q2, .int q3, .int q4, .bool qf, .int q6, .dat qw, .dat qh, .int r1, .int r2, .int r3, .int r4, .bool rf, .int r6, .dat rw, .dat rh, .dat
 (D.slc (D.hd (hs 11 0)) 8 (List.append (D.rows (D.slc (D.hd (hs 5 0)) 8 (List.append (D.rows (D.slc (D.hd (hs 0 0)) 8 [])) z4))) (D.rows z3))), .dat wa, .dat wb, .dat wc, .int now, .int clk, .bool rt, .int st]) z1)
 (Fin.ofNat 3 0)))), .dat (D.like (hs_1 0 3) (Mb.held (Gr.node (recvG (grOf [.int cn, .int cr, .int cp, .int cdl, .dat cps, .dat css, .bool cv, .int p1, .int p2, .int p3, .int p4, .bool pf, .int p6, .dat pw, .dat ph, .int q1, .int q2, .int q3, .int q4, .bool qf, .int q6, .dat qw, .dat qh, .int r1, .int r2, .int r3, .int r4, .bool rf, .int r6, .dat rw, .dat rh, .dat
 (D.slc (D.hd (hs 11 0)) 8 (List.append (D.rows (D.slc (D.hd (hs 5 0)) 8 (List.append (D.rows (D.slc (D.hd (hs 0 0)) 8 [])) z4))) (D.rows z3))), .dat wa, .dat wb, .dat wc, .int now, .int clk, .bool rt, .int st]) z1)
 (Fin.ofNat 3 0)))), .int .i64 (Mb.round (Gr.node (recvG (grOf [.int cn, .int cr, .int cp, .int cdl, .dat cps, .dat css, .bool cv, .int p1, .int p2, .int p3, .int p4, .bool pf, .int p6, .dat pw, .dat ph, .int q1, .int q2, .int q3, .int q4, .bool qf, .int q6, .dat qw, .dat qh, .int r1, .int r2, .int r3, .int r4, .bool rf, .int r6, .dat rw, .dat rh, .dat
 (D.slc (D.hd (hs 11 0)) 8 (List.append (D.rows (D.slc (D.hd (hs 5 0)) 8 (List.append (D.rows (D.slc (D.hd (hs 0 0)) 8 [])) z4))) (D.rows z3))), .dat wa, .dat wb, .dat wc, .int now, .int clk, .bool rt, .int st]) z1)
 (Fin.ofNat 3 1))), .int .i64 (Mb.position (Gr.node (recvG (grOf [.int cn, .int cr, .int cp, .int cdl, .dat cps, .dat css, .bool cv, .int p1, .int p2, .int p3, .int p4, .bool pf, .int p6, .dat pw, .dat ph, .int q1, .int q2, .int q3, .int q4, .bool qf, .int q6, .dat qw, .dat qh, .int r1, .int r2, .int r3, .int r4, .bool rf, .int r6, .dat rw, .dat rh, .dat
 (D.slc (D.hd (hs 11 0)) 8 (List.append (D.rows (D.slc (D.hd (hs 5 0)) 8 (List.append (D.rows (D.slc (D.hd (hs 0 0)) 8 [])) z4))) (D.rows z3))), .dat wa, .dat wb, .dat wc, .int now, .int clk, .bool rt, .int st]) z1)
 (Fin.ofNat 3 1))), .int .i64 (Mb.thawed (Gr.node (recvG (grOf [.int cn, .int cr, .int cp, .int cdl, .dat cps, .dat css, .bool cv, .int p1, .int p2, .int p3, .int p4, .bool pf, .int p6, .dat pw, .dat ph, .int q1, .int q2, .int q3, .int q4, .bool qf, .int q6, .dat qw, .dat qh, .int r1, .int r2, .int r3, .int r4, .bool rf, .int r6, .dat rw, .dat rh, .dat
 (D.slc (D.hd (hs 11 0)) 8 (List.append (D.rows (D.slc (D.hd (hs 5 0)) 8 (List.append (D.rows (D.slc (D.hd (hs 0 0)) 8 [])) z4))) (D.rows z3))), .dat wa, .dat wb, .dat wc, .int now, .int clk, .bool rt, .int st]) z1)
 (Fin.ofNat 3 1))), .int .i64 (Mb.issued (Gr.node (recvG (grOf [.int cn, .int cr, .int cp, .int cdl, .dat cps, .dat css, .bool cv, .int p1, .int p2, .int p3, .int p4, .bool pf, .int p6, .dat pw, .dat ph, .int q1, .int q2, .int q3, .int q4, .bool qf, .int q6, .dat qw, .dat qh, .int r1, .int r2, .int r3, .int r4, .bool rf, .int r6, .dat rw, .dat rh, .dat
 (D.slc (D.hd (hs 11 0)) 8 (List.append (D.rows (D.slc (D.hd (hs 5 0)) 8 (List.append (D.rows (D.slc (D.hd (hs 0 0)) 8 [])) z4))) (D.rows z3))), .dat wa, .dat wb, .dat wc, .int now, .int clk, .bool rt, .int st]) z1)
 (Fin.ofNat 3 1))), .bool (Mb.frozen (Gr.node (recvG (grOf [.int cn, .int cr, .int cp, .int cdl, .dat cps, .dat css, .bool cv, .int p1, .int p2, .int p3, .int p4, .bool pf, .int p6, .dat pw, .dat ph, .int q1, .int q2, .int q3, .int q4, .bool qf, .int q6, .dat qw, .dat qh, .int r1, .int r2, .int r3, .int r4, .bool rf, .int r6, .dat rw, .dat rh, .dat
 (D.slc (D.hd (hs 11 0)) 8 (List.append (D.rows (D.slc (D.hd (hs 5 0)) 8 (List.append (D.rows (D.slc (D.hd (hs 0 0)) 8 [])) z4))) (D.rows z3))), .dat wa, .dat wb, .dat wc, .int now, .int clk, .bool rt, .int st]) z1)
 (Fin.ofNat 3 1))), .int .i64 (Mb.upto (Gr.node (recvG (grOf [.int cn, .int cr, .int cp, .int cdl, .dat cps, .dat css, .bool cv, .int p1, .int p2, .int p3, .int p4, .bool pf, .int p6, .dat pw, .dat ph, .int q1, .int q2, .int q3, .int q4, .bool qf, .int q6, .dat qw, .dat qh, .int r1, .int r2, .int r3, .int r4, .bool rf, .int r6, .dat rw, .dat rh, .dat
 (D.slc (D.hd (hs 11 0)) 8 (List.append (D.rows (D.slc (D.hd (hs 5 0)) 8 (List.append (D.rows (D.slc (D.hd (hs 0 0)) 8 [])) z4))) (D.rows z3))), .dat wa, .dat wb, .dat wc, .int now, .int clk, .bool rt, .int st]) z1)
 (Fin.ofNat 3 1))), .dat (D.like (hs_1 0 4) (Mb.waiting (Gr.node (recvG (grOf [.int cn, .int cr, .int cp, .int cdl, .dat cps, .dat css, .bool cv, .int p1, .int p2, .int p3, .int p4, .bool pf, .int p6, .dat pw, .dat ph, .int q1, .int q2, .int q3, .int q4, .bool qf, .int q6, .dat qw, .dat qh, .int r1, .int r2, .int r3, .int r4, .bool rf, .int r6, .dat rw, .dat rh, .dat
 (D.slc (D.hd (hs 11 0)) 8 (List.append (D.rows (D.slc (D.hd (hs 5 0)) 8 (List.append (D.rows (D.slc (D.hd (hs 0 0)) 8 [])) z4))) (D.rows z3))), .dat wa, .dat wb, .dat wc, .int now, .int clk, .bool rt, .int st]) z1)
 (Fin.ofNat 3 1)))), .dat (D.like (hs_1 0 5) (Mb.held (Gr.node (recvG (grOf [.int cn, .int cr, .int cp, .int cdl, .dat cps, .dat css, .bool cv, .int p1, .int p2, .int p3, .int p4, .bool pf, .int p6, .dat pw, .dat ph, .int q1, .int q2, .int q3, .int q4, .bool qf, .int q6, .dat qw, .dat qh, .int r1, .int r2, .int r3, .int r4, .bool rf, .int r6, .dat rw, .dat rh, .dat
 (D.slc (D.hd (hs 11 0)) 8 (List.append (D.rows (D.slc (D.hd (hs 5 0)) 8 (List.append (D.rows (D.slc (D.hd (hs 0 0)) 8 [])) z4))) (D.rows z3))), .dat wa, .dat wb, .dat wc, .int now, .int clk, .bool rt, .int st]) z1)
 (Fin.ofNat 3 1)))), .int .i64 (Mb.round (Gr.node (recvG (grOf [.int cn, .int cr, .int cp, .int cdl, .dat cps, .dat css, .bool cv, .int p1, .int p2, .int p3, .int p4, .bool pf, .int p6, .dat pw, .dat ph, .int q1, .int q2, .int q3, .int q4, .bool qf, .int q6, .dat qw, .dat qh, .int r1, .int r2, .int r3, .int r4, .bool rf, .int r6, .dat rw, .dat rh, .dat
 (D.slc (D.hd (hs 11 0)) 8 (List.append (D.rows (D.slc (D.hd (hs 5 0)) 8 (List.append (D.rows (D.slc (D.hd (hs 0 0)) 8 [])) z4))) (D.rows z3))), .dat wa, .dat wb, .dat wc, .int now, .int clk, .bool rt, .int st]) z1)
 (Fin.ofNat 3 2))), .int .i64 (Mb.position (Gr.node (recvG (grOf [.int cn, .int cr, .int cp, .int cdl, .dat cps, .dat css, .bool cv, .int p1, .int p2, .int p3, .int p4, .bool pf, .int p6, .dat pw, .dat ph, .int q1, .int q2, .int q3, .int q4, .bool qf, .int q6, .dat qw, .dat qh, .int r1, .int r2, .int r3, .int r4, .bool rf, .int r6, .dat rw, .dat rh, .dat
 (D.slc (D.hd (hs 11 0)) 8 (List.append (D.rows (D.slc (D.hd (hs 5 0)) 8 (List.append (D.rows (D.slc (D.hd (hs 0 0)) 8 [])) z4))) (D.rows z3))), .dat wa, .dat wb, .dat wc, .int now, .int clk, .bool rt, .int st]) z1)
 (Fin.ofNat 3 2))), .int .i64 (Mb.thawed (Gr.node (recvG (grOf [.int cn, .int cr, .int cp, .int cdl, .dat cps, .dat css, .bool cv, .int p1, .int p2, .int p3, .int p4, .bool pf, .int p6, .dat pw, .dat ph, .int q1, .int q2, .int q3, .int q4, .bool qf, .int q6, .dat qw, .dat qh, .int r1, .int r2, .int r3, .int r4, .bool rf, .int r6, .dat rw, .dat rh, .dat
 (D.slc (D.hd (hs 11 0)) 8 (List.append (D.rows (D.slc (D.hd (hs 5 0)) 8 (List.append (D.rows (D.slc (D.hd (hs 0 0)) 8 [])) z4))) (D.rows z3))), .dat wa, .dat wb, .dat wc, .int now, .int clk, .bool rt, .int st]) z1)
 (Fin.ofNat 3 2))), .int .i64 (Mb.issued (Gr.node (recvG (grOf [.int cn, .int cr, .int cp, .int cdl, .dat cps, .dat css, .bool cv, .int p1, .int p2, .int p3, .int p4, .bool pf, .int p6, .dat pw, .dat ph, .int q1, .int q2, .int q3, .int q4, .bool qf, .int q6, .dat qw, .dat qh, .int r1, .int r2, .int r3, .int r4, .bool rf, .int r6, .dat rw, .dat rh, .dat
 (D.slc (D.hd (hs 11 0)) 8 (List.append (D.rows (D.slc (D.hd (hs 5 0)) 8 (List.append (D.rows (D.slc (D.hd (hs 0 0)) 8 [])) z4))) (D.rows z3))), .dat wa, .dat wb, .dat wc, .int now, .int clk, .bool rt, .int st]) z1)
 (Fin.ofNat 3 2))), .bool (Mb.frozen (Gr.node (recvG (grOf [.int cn, .int cr, .int cp, .int cdl, .dat cps, .dat css, .bool cv, .int p1, .int p2, .int p3, .int p4, .bool pf, .int p6, .dat pw, .dat ph, .int q1, .int q2, .int q3, .int q4, .bool qf, .int q6, .dat qw, .dat qh, .int r1, .int r2, .int r3, .int r4, .bool rf, .int r6, .dat rw, .dat rh, .dat
 (D.slc (D.hd (hs 11 0)) 8 (List.append (D.rows (D.slc (D.hd (hs 5 0)) 8 (List.append (D.rows (D.slc (D.hd (hs 0 0)) 8 [])) z4))) (D.rows z3))), .dat wa, .dat wb, .dat wc, .int now, .int clk, .bool rt, .int st]) z1)
 (Fin.ofNat 3 2))), .int .i64 (Mb.upto (Gr.node (recvG (grOf [.int cn, .int cr, .int cp, .int cdl, .dat cps, .dat css, .bool cv, .int p1, .int p2, .int p3, .int p4, .bool pf, .int p6, .dat pw, .dat ph, .int q1, .int q2, .int q3, .int q4, .bool qf, .int q6, .dat qw, .dat qh, .int r1, .int r2, .int r3, .int r4, .bool rf, .int r6, .dat rw, .dat rh, .dat
 (D.slc (D.hd (hs 11 0)) 8 (List.append (D.rows (D.slc (D.hd (hs 5 0)) 8 (List.append (D.rows (D.slc (D.hd (hs 0 0)) 8 [])) z4))) (D.rows z3))), .dat wa, .dat wb, .dat wc, .int now, .int clk, .bool rt, .int st]) z1)
 (Fin.ofNat 3 2))), .dat (D.like (hs_1 0 6) (Mb.waiting (Gr.node (recvG (grOf [.int cn, .int cr, .int cp, .int cdl, .dat cps, .dat css, .bool cv, .int p1, .int p2, .int p3, .int p4, .bool pf, .int p6, .dat pw, .dat ph, .int q1, .int q2, .int q3, .int q4, .bool qf, .int q6, .dat qw, .dat qh, .int r1, .int r2, .int r3, .int r4, .bool rf, .int r6, .dat rw, .dat rh, .dat
 (D.slc (D.hd (hs 11 0)) 8 (List.append (D.rows (D.slc (D.hd (hs 5 0)) 8 (List.append (D.rows (D.slc (D.hd (hs 0 0)) 8 [])) z4))) (D.rows z3))), .dat wa, .dat wb, .dat wc, .int now, .int clk, .bool rt, .int st]) z1)
 (Fin.ofNat 3 2)))), .dat (D.like (hs_1 0 7) (Mb.held (Gr.node (recvG (grOf [.int cn, .int cr, .int cp, .int cdl, .dat cps, .dat css, .bool cv, .int p1, .int p2, .int p3, .int p4, .bool pf, .int p6, .dat pw, .dat ph, .int q1, .int q2, .int q3, .int q4, .bool qf, .int q6, .dat qw, .dat qh, .int r1, .int r2, .int r3, .int r4, .bool rf, .int r6, .dat rw, .dat rh, .dat
 (D.slc (D.hd (hs 11 0)) 8 (List.append (D.rows (D.slc (D.hd (hs 5 0)) 8 (List.append (D.rows (D.slc (D.hd (hs 0 0)) 8 [])) z4))) (D.rows z3))), .dat wa, .dat wb, .dat wc, .int now, .int clk, .bool rt, .int st]) z1)
 (Fin.ofNat 3 2)))), .dat (D.like (hs_1 0 8) (Gr.flight (recvG (grOf [.int cn, .int cr, .int cp, .int cdl, .dat cps, .dat css, .bool cv, .int p1, .int p2, .int p3, .int p4, .bool pf, .int p6, .dat pw, .dat ph, .int q1, .int q2, .int q3, .int q4, .bool qf, .int q6, .dat qw, .dat qh, .int r1, .int r2, .int r3, .int r4, .bool rf, .int r6, .dat rw, .dat rh, .dat
 (D.slc (D.hd (hs 11 0)) 8 (List.append (D.rows (D.slc (D.hd (hs 5 0)) 8 (List.append (D.rows (D.slc (D.hd (hs 0 0)) 8 [])) z4))) (D.rows z3))), .dat wa, .dat wb, .dat wc, .int now, .int clk, .bool rt, .int st]) z1))), .dat
 (D.like (hs_1 0 9) (Gr.wr (recvG (grOf [.int cn, .int cr, .int cp, .int cdl, .dat cps, .dat css, .bool cv, .int p1, .int p2, .int p3, .int p4, .bool pf, .int p6, .dat pw, .dat ph, .int q1, .int q2, .int q3, .int q4, .bool qf, .int q6, .dat qw, .dat qh, .int r1, .int r2, .int r3, .int r4, .bool rf, .int r6, .dat rw, .dat rh, .dat
 (D.slc (D.hd (hs 11 0)) 8 (List.append (D.rows (D.slc (D.hd (hs 5 0)) 8 (List.append (D.rows (D.slc (D.hd (hs 0 0)) 8 [])) z4))) (D.rows z3))), .dat wa, .dat wb, .dat wc, .int now, .int clk, .bool rt, .int st]) z1)
 (Fin.ofNat 3 0))), .dat (D.like (hs_1 0 10) (Gr.wr (recvG (grOf [.int cn, .int cr, .int cp, .int cdl, .dat cps, .dat css, .bool cv, .int p1, .int p2, .int p3, .int p4, .bool pf, .int p6, .dat pw, .dat ph, .int q1, .int q2, .int q3, .int q4, .bool qf, .int q6, .dat qw, .dat qh, .int r1, .int r2, .int r3, .int r4, .bool rf, .int r6, .dat rw, .dat rh, .dat
 (D.slc (D.hd (hs 11 0)) 8 (List.append (D.rows (D.slc (D.hd (hs 5 0)) 8 (List.append (D.rows (D.slc (D.hd (hs 0 0)) 8 [])) z4))) (D.rows z3))), .dat wa, .dat wb, .dat wc, .int now, .int clk, .bool rt, .int st]) z1)
 (Fin.ofNat 3 1))), .dat (D.like (hs_1 0 11) (Gr.wr (recvG (grOf [.int cn, .int cr, .int cp, .int cdl, .dat cps, .dat css, .bool cv, .int p1, .int p2, .int p3, .int p4, .bool pf, .int p6, .dat pw, .dat ph, .int q1, .int q2, .int q3, .int q4, .bool qf, .int q6, .dat qw, .dat qh, .int r1, .int r2, .int r3, .int r4, .bool rf, .int r6, .dat rw, .dat rh, .dat
 (D.slc (D.hd (hs 11 0)) 8 (List.append (D.rows (D.slc (D.hd (hs 5 0)) 8 (List.append (D.rows (D.slc (D.hd (hs 0 0)) 8 [])) z4))) (D.rows z3))), .dat wa, .dat wb, .dat wc, .int now, .int clk, .bool rt, .int st]) z1)
 (Fin.ofNat 3 2))), .int .i64 (Gr.now (recvG (grOf [.int cn, .int cr, .int cp, .int cdl, .dat cps, .dat css, .bool cv, .int p1, .int p2, .int p3, .int p4, .bool pf, .int p6, .dat pw, .dat ph, .int q1, .int q2, .int q3, .int q4, .bool qf, .int q6, .dat qw, .dat qh, .int r1, .int r2, .int r3, .int r4, .bool rf, .int r6, .dat rw, .dat rh, .dat
 (D.slc (D.hd (hs 11 0)) 8 (List.append (D.rows (D.slc (D.hd (hs 5 0)) 8 (List.append (D.rows (D.slc (D.hd (hs 0 0)) 8 [])) z4))) (D.rows z3))), .dat wa, .dat wb, .dat wc, .int now, .int clk, .bool rt, .int st]) z1)), .int .i64
 (Gr.clock (recvG (grOf [.int cn, .int cr, .int cp, .int cdl, .dat cps, .dat css, .bool cv, .int p1, .int p2, .int p3, .int p4, .bool pf, .int p6, .dat pw, .dat ph, .int q1, .int q2, .int q3, .int q4, .bool qf, .int q6, .dat qw, .dat qh, .int r1, .int r2, .int r3, .int r4, .bool rf, .int r6, .dat rw, .dat rh, .dat
 (D.slc (D.hd (hs 11 0)) 8 (List.append (D.rows (D.slc (D.hd (hs 5 0)) 8 (List.append (D.rows (D.slc (D.hd (hs 0 0)) 8 [])) z4))) (D.rows z3))), .dat wa, .dat wb, .dat wc, .int now, .int clk, .bool rt, .int st]) z1)), .bool
 (Gr.right (recvG (grOf [.int cn, .int cr, .int cp, .int cdl, .dat cps, .dat css, .bool cv, .int p1, .int p2, .int p3, .int p4, .bool pf, .int p6, .dat pw, .dat ph, .int q1, .int q2, .int q3, .int q4, .bool qf, .int q6, .dat qw, .dat qh, .int r1, .int r2, .int r3, .int r4, .bool rf, .int r6, .dat rw, .dat rh, .dat
 (D.slc (D.hd (hs 11 0)) 8 (List.append (D.rows (D.slc (D.hd (hs 5 0)) 8 (List.append (D.rows (D.slc (D.hd (hs 0 0)) 8 [])) z4))) (D.rows z3))), .dat wa, .dat wb, .dat wc, .int now, .int clk, .bool rt, .int st]) z1)), .int .i64
 (Gr.started (recvG (grOf [.int cn, .int cr, .int cp, .int cdl, .dat cps, .dat css, .bool cv, .int p1, .int p2, .int p3, .int p4, .bool pf, .int p6, .dat pw, .dat ph, .int q1, .int q2, .int q3, .int q4, .bool qf, .int q6, .dat qw, .dat qh, .int r1, .int r2, .int r3, .int r4, .bool rf, .int r6, .dat rw, .dat rh, .dat
 (D.slc (D.hd (hs 11 0)) 8 (List.append (D.rows (D.slc (D.hd (hs 5 0)) 8 (List.append (D.rows (D.slc (D.hd (hs 0 0)) 8 [])) z4))) (D.rows z3))), .dat wa, .dat wb, .dat wc, .int now, .int clk, .bool rt, .int st]) z1))])))))))))
 (.need ((7 : Int) ≠ 0) (.br (decide (Int.tmod ek 7 = 5)) z5 (.need (GrRight z7 ∧ True ∧ Gr.right z2 = true) (.all fun hs => .ret (.agg [.int .i64 (Co.nodes (Gr.c z2)), .int .i64 (Co.round (Gr.c z2)), .int .i64
 (Co.phase (Gr.c z2)), .int .i64 (Co.deadline (Gr.c z2)), .dat (D.like (hs 0 0) (Co.positions (Gr.c z2))), .dat (D.like (hs 0 1) (Co.seen (Gr.c z2))), .bool (Co.valid (Gr.c z2)), .int .i64 (Mb.round (Gr.node z2
 (Fin.ofNat 3 0))), .int .i64 (Mb.position (Gr.node z2 (Fin.ofNat 3 0))), .int .i64 (Mb.thawed (Gr.node z2 (Fin.ofNat 3 0))), .int .i64 (Mb.issued (Gr.node z2 (Fin.ofNat 3 0))), .bool (Mb.frozen (Gr.node z2
 (Fin.ofNat 3 0))), .int .i64 (Mb.upto (Gr.node z2 (Fin.ofNat 3 0))), .dat (D.like (hs 0 2) (Mb.waiting (Gr.node z2 (Fin.ofNat 3 0)))), .dat (D.like (hs 0 3) (Mb.held (Gr.node z2 (Fin.ofNat 3 0)))), .int .i64
 (Mb.round (Gr.node z2 (Fin.ofNat 3 1))), .int .i64 (Mb.position (Gr.node z2 (Fin.ofNat 3 1))), .int .i64 (Mb.thawed (Gr.node z2 (Fin.ofNat 3 1))), .int .i64 (Mb.issued (Gr.node z2 (Fin.ofNat 3 1))), .bool
 (Mb.frozen (Gr.node z2 (Fin.ofNat 3 1))), .int .i64 (Mb.upto (Gr.node z2 (Fin.ofNat 3 1))), .dat (D.like (hs 0 4) (Mb.waiting (Gr.node z2 (Fin.ofNat 3 1)))), .dat (D.like (hs 0 5) (Mb.held (Gr.node z2
 (Fin.ofNat 3 1)))), .int .i64 (Mb.round (Gr.node z2 (Fin.ofNat 3 2))), .int .i64 (Mb.position (Gr.node z2 (Fin.ofNat 3 2))), .int .i64 (Mb.thawed (Gr.node z2 (Fin.ofNat 3 2))), .int .i64 (Mb.issued (Gr.node z2
 (Fin.ofNat 3 2))), .bool (Mb.frozen (Gr.node z2 (Fin.ofNat 3 2))), .int .i64 (Mb.upto (Gr.node z2 (Fin.ofNat 3 2))), .dat (D.like (hs 0 6) (Mb.waiting (Gr.node z2 (Fin.ofNat 3 2)))), .dat (D.like (hs 0 7)
 (Mb.held (Gr.node z2 (Fin.ofNat 3 2)))), .dat (D.like (hs 0 8) (Gr.flight z2)), .dat (D.like (hs 0 9) (Gr.wr z2 (Fin.ofNat 3 0))), .dat (D.like (hs 0 10) (Gr.wr z2 (Fin.ofNat 3 1))), .dat (D.like (hs 0 11)
 (Gr.wr z2 (Fin.ofNat 3 2))), .int .i64 (Gr.now z2), .int .i64 (Gr.clock z2), .bool (Gr.right z2), .int .i64 (Gr.started z2)])))))))))) := by
 intros; kernel_rfl

end
end Go.Proofs.Ytoechplbhbalaaa
end
section
open Go Go.Proofs Sx
namespace Sx
theorem flightG_nil {g : Gr} {k w : Int} (h : g.flight.length = 0) : flightG g k w = g := by
 unfold flightG
 exact if_pos h
theorem flightG_go {g : Gr} {k w : Int} {i : Nat} {m : Msg} (h : ¬g.flight.length = 0) (hi : (Int.tmod w g.flight.length).toNat = i) (hm : g.flight.getD i noMsg = m) :
  flightG g k w = if Int.tmod k 7 = 5 then (if Int.tmod k 7 = 4 then g else { g with flight := g.flight.take i ++ g.flight.drop (i + 1) }) else recvG (if Int.tmod k 7 = 4 then g else { g with flight := g.flight.take i ++ g.flight.drop (i + 1) }) m := by
 subst hi; subst hm
 unfold flightG
 exact if_neg h
end Sx
namespace Go.Proofs.Ytoechplbhbalaaa
set_option maxRecDepth 100000
set_option maxHeartbeats 0

theorem flight_ent {w : World} {H : HV} {cn cr cp cdl : Int} {cps css : D} {cv : Bool} {p1 p2 p3 p4 : Int} {pf : Bool} {p6 : Int} {pw ph : D} {q1 q2 q3 q4 : Int} {qf : Bool} {q6 : Int} {qw qh : D} {r1 r2 r3 r4 : Int} {rf : Bool} {r6 : Int} {rw rh : D} {fl wa wb wc : D} {now clk : Int} {rt : Bool} {st : Int} {ek en ew : Int} (hek : U8 ek) (hew : U8 ew) (hR : GrRight (cv9 cn cr cp cdl cps css cv p1 p2 p3 p4 pf p6 pw ph q1 q2 q3 q4 qf q6 qw qh r1 r2 r3 r4 rf r6 rw rh fl wa wb wc now clk rt st)) (hr : (flightG (grOf (cv9 cn cr cp cdl cps css cv p1 p2 p3 p4 pf p6 pw ph q1 q2 q3 q4 qf q6 qw qh r1 r2 r3 r4 rf r6 rw rh fl wa wb wc now clk rt st)) ek ew).right = true) :
  Runs Try.prog ⟨w, H⟩ (entry Try.prog 48 [.agg (cl9 cn cr cp cdl cps css cv p1 p2 p3 p4 pf p6 pw ph q1 q2 q3 q4 qf q6 qw qh r1 r2 r3 r4 rf r6 rw rh fl wa wb wc now clk rt st), .agg [.int .u8 ek, .int .u8 en, .int .u8 ew]]) (RetD w H fun ds => .agg (svOf ds 0 (flightG (grOf (cv9 cn cr cp cdl cps css cv p1 p2 p3 p4 pf p6 pw ph q1 q2 q3 q4 qf q6 qw qh r1 r2 r3 r4 rf r6 rw rh fl wa wb wc now clk rt st)) ek ew).cls)) := by
 have hR0 := hR
 rw [grRight_eq] at hR
 obtain ⟨⟨hc1, hc2⟩, hp, hq, hr', ⟨hf, hfl⟩, ⟨ha, hal⟩, ⟨hb, hbl⟩, ⟨hcc, hcl⟩⟩ := hR
 have hp' := hp; have hq' := hq; have hr2 := hr'
 obtain ⟨hpw, hph, hpl, hpm⟩ := hp'
 obtain ⟨hqw, hqh, hql, hqm⟩ := hq'
 obtain ⟨hrw, hrh, hrl, hrm⟩ := hr2
 simp only at hpw hph hpl hpm hqw hqh hql hqm hrw hrh hrl hrm
 have l1 := D.Is.length (α := Msg) fl
 have l2 := rows_len (rows_of hf)
 have i1 : fl.Is Msg := hf
 have i2 : fl.to Msg = fl.to Msg := rfl
 have e1 : IntKind.i64.wrap ew = ew := wrap64 (by have := hew.1; omega) (by have := hew.2; omega)
 apply exec_sound ctROk 900
 rw [flight_in, e1]
 refine ⟨fun h0 => ?_, fun h0 => ?_⟩
 ·have h0 : ((fl.len : Nat) : Int) = 0 := of_decide_eq_true h0
  have e : flightG (grOf (cv9 cn cr cp cdl cps css cv p1 p2 p3 p4 pf p6 pw ph q1 q2 q3 q4 qf q6 qw qh r1 r2 r3 r4 rf r6 rw rh fl wa wb wc now clk rt st)) ek ew = (grOf (cv9 cn cr cp cdl cps css cv p1 p2 p3 p4 pf p6 pw ph q1 q2 q3 q4 qf q6 qw qh r1 r2 r3 r4 rf r6 rw rh fl wa wb wc now clk rt st)) := flightG_nil (by rw [grOf_eq]; simp only; omega)
  rw [e, grOf_eq, cls_tri]
  refine ret_cells ?_
  repeat' first
  | exact .nil
  | refine .cons ?_ ?_
  | exact rfl
  | exact fun _ => rfl
  | exact lst_ok (stands_dat i1 i2)
  | exact lst_ok (stands_self (by assumption))
  | fail
 ·have h0 : ¬((fl.len : Nat) : Int) = 0 := of_decide_eq_false h0
  have t0 : 0 ≤ Int.tmod ew fl.len := Int.tmod_nonneg _ hew.1
  have t1 : Int.tmod ew fl.len < fl.len := Int.tmod_lt_of_pos _ (by omega)
  obtain ⟨k, hk⟩ : ∃ k : Nat, Int.tmod ew fl.len = k := ⟨(Int.tmod ew fl.len).toNat, by omega⟩
  have hkl : k < (fl.to Msg).length := by omega
  have e2 : IntKind.i64.wrap ((k : Int) + 1) = ((k + 1 : Nat) : Int) := by rw [wrap64 (by omega) (by omega)]; omega
  rw [hk, e2]
  obtain ⟨m0, m1, m2, m3, m4, m5, m6, m7, m8, m9, m10⟩ := msg_cell hf hkl
  have hm : MsgD.msg (MsgD.mk (D.getInt fl (Int.toNat (k : Int)) 0) (D.getInt fl (Int.toNat (k : Int)) 1) (D.getInt fl (Int.toNat (k : Int)) 2) (D.getInt fl (Int.toNat (k : Int)) 3) (D.getInt fl (Int.toNat (k : Int)) 4) (D.getInt fl (Int.toNat (k : Int)) 5) (D.cell fl (Int.toNat (k : Int)) 6) (D.cell fl (Int.toNat (k : Int)) 7)) = (fl.to Msg)[k] := by
   simp only [MsgD.msg, Int.toNat_natCast, m1, m2, m3, m4, m5, m6, m8, m10]
  have hd := flightG_go (g := (grOf (cv9 cn cr cp cdl cps css cv p1 p2 p3 p4 pf p6 pw ph q1 q2 q3 q4 qf q6 qw qh r1 r2 r3 r4 rf r6 rw rh fl wa wb wc now clk rt st))) (k := ek) (w := ew) (i := k) (m := (fl.to Msg)[k]) (by rw [grOf_eq]; simp only; omega) (by rw [grOf_eq]; simp only; rw [← l1, hk]; rfl) (by rw [grOf_eq]; simp [hkl])
  have n7 : (7 : Int) ≠ 0 := by decide
  have nA : 0 ≤ (k : Int) ∧ (k : Int) < ((fl.len : Nat) : Int) ∧ fl.sz = 8 := ⟨by omega, by omega, hf.size hkl⟩
  have nB : fl.HasCells (Int.toNat (k : Int)) 0 [.int .i64, .int .i64, .int .i64, .int .i64, .int .i64, .int .i64, .slc, .slc] := m0
  obtain ⟨s1, s2⟩ := hf.sub 0 (Int.toNat (k : Int))
  obtain ⟨s3, s4⟩ := hf.sub (Int.toNat ((k + 1 : Nat) : Int)) (Int.toNat ((D.len fl : Nat) : Int))
  have s2 : (D.sub fl 0 (Int.toNat (k : Int))).to Msg = (fl.to Msg).take k := by rw [s2]; simp
  have s4 : (D.sub fl (Int.toNat ((k + 1 : Nat) : Int)) (Int.toNat ((D.len fl : Nat) : Int))).to Msg = (fl.to Msg).drop (k + 1) := by
   rw [s4]; simp only [Int.toNat_natCast]; rw [List.take_of_length_le (by rw [List.length_drop]; omega)]
  have sl1 : (D.sub fl 0 (Int.toNat (k : Int))).len = k := by rw [D.Is.length (α := Msg), s2, List.length_take]; omega
  have sl2 : (D.sub fl (Int.toNat ((k + 1 : Nat) : Int)) (Int.toNat ((D.len fl : Nat) : Int))).len = fl.len - (k + 1) := by rw [D.Is.length (α := Msg), s4, List.length_drop]; omega
  have srl1 := rows_len (rows_of s1)
  rw [s2, List.length_take] at srl1
  refine ⟨h0, nA, nB, n7, fun h4 hs => ?_, fun h4 => ?_⟩
  ·have h4 : ¬Int.tmod ek 7 = 4 := by simpa using h4
   rw [if_neg h4] at hd
   have hrr : SRows Msg (List.append (List.append [] (D.rows (D.sub fl 0 (Int.toNat (k : Int))))) (D.rows (D.sub fl (Int.toNat ((k + 1 : Nat) : Int)) (Int.toNat ((D.len fl : Nat) : Int))))) ((fl.to Msg).take k ++ (fl.to Msg).drop (k + 1)) := by
    rw [← s2, ← s4]; exact rows_app (rows_of s1) (rows_of s3)
   obtain ⟨i1, i2⟩ := is_of (h := D.hd (hs 11 0)) (s := 8) rfl hrr
   have eg : grOf (CV.int cn :: CV.int cr :: CV.int cp :: CV.int cdl :: CV.dat cps :: CV.dat css :: CV.bool cv :: CV.int p1 :: CV.int p2 :: CV.int p3 :: CV.int p4 :: CV.bool pf :: CV.int p6 :: CV.dat pw :: CV.dat ph :: CV.int q1 :: CV.int q2 :: CV.int q3 :: CV.int q4 :: CV.bool qf :: CV.int q6 :: CV.dat qw :: CV.dat qh :: CV.int r1 :: CV.int r2 :: CV.int r3 :: CV.int r4 :: CV.bool rf :: CV.int r6 :: CV.dat rw :: CV.dat rh :: CV.dat (D.slc (D.hd (hs 11 0)) 8 (List.append (D.rows (D.slc (D.hd (hs 5 0)) 8 (List.append (D.rows (D.slc (D.hd (hs 0 0)) 8 [])) (D.rows (D.sub fl 0 (Int.toNat (k : Int))))))) (D.rows (D.sub fl (Int.toNat ((k + 1 : Nat) : Int)) (Int.toNat ((D.len fl : Nat) : Int)))))) :: CV.dat wa :: CV.dat wb :: CV.dat wc :: CV.int now :: CV.int clk :: CV.bool rt :: CV.int st :: []) = { (grOf (cv9 cn cr cp cdl cps css cv p1 p2 p3 p4 pf p6 pw ph q1 q2 q3 q4 qf q6 qw qh r1 r2 r3 r4 rf r6 rw rh fl wa wb wc now clk rt st)) with flight := (grOf (cv9 cn cr cp cdl cps css cv p1 p2 p3 p4 pf p6 pw ph q1 q2 q3 q4 qf q6 qw qh r1 r2 r3 r4 rf r6 rw rh fl wa wb wc now clk rt st)).flight.take k ++ (grOf (cv9 cn cr cp cdl cps css cv p1 p2 p3 p4 pf p6 pw ph q1 q2 q3 q4 qf q6 qw qh r1 r2 r3 r4 rf r6 rw rh fl wa wb wc now clk rt st)).flight.drop (k + 1) } := by
    rw [grOf_eq, grOf_eq]
    exact congrArg (fun z : List Msg => (⟨⟨cn, cr, cp, cdl, cps.to Int, css.to Bool, cv⟩, _, z, _, now, clk, rt, st⟩ : Gr)) i2
   have ela : (List.append (D.rows (D.slc (D.hd (hs 0 0)) 8 [])) (D.rows (D.sub fl 0 (Int.toNat (k : Int))))).length = (D.rows (D.sub fl 0 (Int.toNat (k : Int)))).length := rfl
   refine ⟨⟨by omega, by omega, by omega, hf.fits⟩, ⟨rfl, s1.fits, by rw [sl1]; simp only [len_slc, List.length_nil]; omega, by rw [sl1]; simp only [len_slc, List.length_nil]; omega⟩,
    ⟨by omega, by omega, Int.le_refl _, hf.fits⟩, ⟨rfl, s3.fits, by rw [sl2]; simp only [len_slc, ela]; omega, by rw [sl2]; simp only [len_slc, ela]; omega⟩, n7, fun h5 => ?_, fun h5 => ?_⟩
   ·have h5 : Int.tmod ek 7 = 5 := of_decide_eq_true h5
    rw [hd, if_pos h5, ← eg, grOf_eq, cls_tri]
    refine ret_cells ?_
    repeat' first
    | exact .nil
    | refine .cons ?_ ?_
    | exact rfl
    | exact fun _ => rfl
    | exact lst_ok (stands_dat i1 i2)
    | exact lst_ok (stands_self (by assumption))
    | fail
   ·have h5 : ¬Int.tmod ek 7 = 5 := of_decide_eq_false h5
    rw [hd, if_neg h5] at hr ⊢
    rw [hm]
    have hR' : GrRight (CV.int cn :: CV.int cr :: CV.int cp :: CV.int cdl :: CV.dat cps :: CV.dat css :: CV.bool cv :: CV.int p1 :: CV.int p2 :: CV.int p3 :: CV.int p4 :: CV.bool pf :: CV.int p6 :: CV.dat pw :: CV.dat ph :: CV.int q1 :: CV.int q2 :: CV.int q3 :: CV.int q4 :: CV.bool qf :: CV.int q6 :: CV.dat qw :: CV.dat qh :: CV.int r1 :: CV.int r2 :: CV.int r3 :: CV.int r4 :: CV.bool rf :: CV.int r6 :: CV.dat rw :: CV.dat rh :: CV.dat (D.slc (D.hd (hs 11 0)) 8 (List.append (D.rows (D.slc (D.hd (hs 5 0)) 8 (List.append (D.rows (D.slc (D.hd (hs 0 0)) 8 [])) (D.rows (D.sub fl 0 (Int.toNat (k : Int))))))) (D.rows (D.sub fl (Int.toNat ((k + 1 : Nat) : Int)) (Int.toNat ((D.len fl : Nat) : Int)))))) :: CV.dat wa :: CV.dat wb :: CV.dat wc :: CV.int now :: CV.int clk :: CV.bool rt :: CV.int st :: []) := by
     rw [grRight_eq]
     exact ⟨⟨hc1, hc2⟩, hp, hq, hr', ⟨i1, Nat.le_trans (Nat.le_of_eq ((D.Is.length (α := Msg) _).trans (congrArg List.length i2))) (by rw [List.length_append, List.length_take, List.length_drop]; omega)⟩, ⟨ha, hal⟩, ⟨hb, hbl⟩, ⟨hcc, hcl⟩⟩
    refine ⟨⟨hR', trivial, ?_⟩, fun hs1 => ?_⟩
    ·exact (congrArg (fun z => (recvG z (fl.to Msg)[k]).right) eg).trans hr
    ·have := (ret_D (P := Try.prog) (w := w) (H := H) (v := .agg (svOf (hs1 0) 0 (recvG (grOf (CV.int cn :: CV.int cr :: CV.int cp :: CV.int cdl :: CV.dat cps :: CV.dat css :: CV.bool cv :: CV.int p1 :: CV.int p2 :: CV.int p3 :: CV.int p4 :: CV.bool pf :: CV.int p6 :: CV.dat pw :: CV.dat ph :: CV.int q1 :: CV.int q2 :: CV.int q3 :: CV.int q4 :: CV.bool qf :: CV.int q6 :: CV.dat qw :: CV.dat qh :: CV.int r1 :: CV.int r2 :: CV.int r3 :: CV.int r4 :: CV.bool rf :: CV.int r6 :: CV.dat rw :: CV.dat rh :: CV.dat (D.slc (D.hd (hs 11 0)) 8 (List.append (D.rows (D.slc (D.hd (hs 5 0)) 8 (List.append (D.rows (D.slc (D.hd (hs 0 0)) 8 [])) (D.rows (D.sub fl 0 (Int.toNat (k : Int))))))) (D.rows (D.sub fl (Int.toNat ((k + 1 : Nat) : Int)) (Int.toNat ((D.len fl : Nat) : Int)))))) :: CV.dat wa :: CV.dat wb :: CV.dat wc :: CV.int now :: CV.int clk :: CV.bool rt :: CV.int st :: [])) (fl.to Msg)[k]).cls)) (g := fun ds => .agg (svOf ds 0 (recvG (grOf (CV.int cn :: CV.int cr :: CV.int cp :: CV.int cdl :: CV.dat cps :: CV.dat css :: CV.bool cv :: CV.int p1 :: CV.int p2 :: CV.int p3 :: CV.int p4 :: CV.bool pf :: CV.int p6 :: CV.dat pw :: CV.dat ph :: CV.int q1 :: CV.int q2 :: CV.int q3 :: CV.int q4 :: CV.bool qf :: CV.int q6 :: CV.dat qw :: CV.dat qh :: CV.int r1 :: CV.int r2 :: CV.int r3 :: CV.int r4 :: CV.bool rf :: CV.int r6 :: CV.dat rw :: CV.dat rh :: CV.dat (D.slc (D.hd (hs 11 0)) 8 (List.append (D.rows (D.slc (D.hd (hs 5 0)) 8 (List.append (D.rows (D.slc (D.hd (hs 0 0)) 8 [])) (D.rows (D.sub fl 0 (Int.toNat (k : Int))))))) (D.rows (D.sub fl (Int.toNat ((k + 1 : Nat) : Int)) (Int.toNat ((D.len fl : Nat) : Int)))))) :: CV.dat wa :: CV.dat wb :: CV.dat wc :: CV.int now :: CV.int clk :: CV.bool rt :: CV.int st :: [])) (fl.to Msg)[k]).cls)) (hs1 0) (fun _ _ => rfl) (fun _ h => h))
     rw [← eg]
     exact this
  ·have h4 : Int.tmod ek 7 = 4 := by simpa using h4
   rw [if_pos h4] at hd
   refine ⟨n7, fun h5 => ?_, fun h5 => ?_⟩
   ·have h5 : Int.tmod ek 7 = 5 := of_decide_eq_true h5
    omega
   ·have h5 : ¬Int.tmod ek 7 = 5 := of_decide_eq_false h5
    rw [hd, if_neg h5] at hr ⊢
    rw [hm]
    refine ⟨⟨hR0, trivial, hr⟩, fun hs1 => ?_⟩
    exact ret_D (P := Try.prog) (w := w) (H := H) (v := .agg (svOf (hs1 0) 0 (recvG (grOf (cv9 cn cr cp cdl cps css cv p1 p2 p3 p4 pf p6 pw ph q1 q2 q3 q4 qf q6 qw qh r1 r2 r3 r4 rf r6 rw rh fl wa wb wc now clk rt st)) (fl.to Msg)[k]).cls)) (g := fun ds => .agg (svOf ds 0 (recvG (grOf (cv9 cn cr cp cdl cps css cv p1 p2 p3 p4 pf p6 pw ph q1 q2 q3 q4 qf q6 qw qh r1 r2 r3 r4 rf r6 rw rh fl wa wb wc now clk rt st)) (fl.to Msg)[k]).cls)) (hs1 0) (fun _ _ => rfl) (fun _ h => h)

theorem lawFlight : Law Try.prog 48 (((rdCells grK).two rdEv).sp spFlight) := by
 refine law_in _ (by kernel_rfl) fun H w ⟨⟨cs, hsh⟩, ek, en, ew⟩ hok => ?_
 obtain ⟨cn, cr, cp, cdl, cps, css, cv, p1, p2, p3, p4, pf, p6, pw, ph, q1, q2, q3, q4, qf, q6, qw, qh, r1, r2, r3, r4, rf, r6, rw, rh, fl, wa, wb, wc, now, clk, rt, st, rfl⟩ := gr_shape hsh
 intro hp
 obtain ⟨h1, ⟨h2, h3⟩, h5⟩ := hp _ (List.mem_singleton.2 rfl)
 exact flight_ent h2 h3 h1 h5
end Go.Proofs.Ytoechplbhbalaaa
end
section
open Go Go.Proofs Sx
namespace Go.Proofs.Ytoechplbhbalaaa
noncomputable def ctS : Ctrs := (48, ctrOf (((rdCells grK).two rdEv).sp spFlight)) :: ctR
theorem ctSOk : Ctrs.Ok Try.prog ctS := by
 intro x hx
 rcases List.mem_cons.1 hx with rfl | hx
 ·exact ctrOf_ok lawFlight
 ·exact ctROk _ hx
end Go.Proofs.Ytoechplbhbalaaa
end
section
open Go Go.Proofs Sx
namespace Go.Proofs.Ytoechplbhbalaaa
set_option maxRecDepth 100000
set_option maxHeartbeats 0
section
variable (cn cr cp cdl : Int) (cps css : D) (cv : Bool) (p1 p2 p3 p4 : Int) (pf : Bool) (p6 : Int) (pw ph : D) (q1 q2 q3 q4 : Int) (qf : Bool) (q6 : Int) (qw qh : D) (r1 r2 r3 r4 : Int) (rf : Bool) (r6 : Int) (rw rh : D) (fl wa wb wc : D) (now clk : Int) (rt : Bool) (st : Int) (ek en ew : Int)
theorem step_in : goS Try.prog ctS (fun _ => false) [(45, 15)] 900 (entry Try.prog 45 [.agg (cl9 cn cr cp cdl cps css cv p1 p2 p3 p4 pf p6 pw ph q1 q2 q3 q4 qf q6 qw qh r1 r2 r3 r4 rf r6 rw rh fl wa wb wc now clk rt st), .agg [.int .u8 ek, .int .u8 en, .int .u8 ew]]) =
 Tree.need ((3 : Int) ≠ 0)
 (.leaf
 (Conf.mk
 (SFrm.mk 45 none none [Item.code (cAt Try.prog 45 [1, 1, 0]), Item.code (cAt Try.prog 45 [1, 1, 1])]
 (mkJ 0
 [(2, .ptr 0 0), (3, .ptr 1 0), (4, .ptr 2 0),
 (5, .int .i64 (Int.tmod (IntKind.wrap .i64 en) 3))]
 0 108))
 []
 [(0,
 OBlk.cells 97
 [.int .i64 cn, .int .i64 cr, .int .i64 cp, .int .i64 cdl, .dat cps,
 .dat css, .bool cv, .int .i64 p1, .int .i64 p2, .int .i64 p3,
 .int .i64 p4, .bool pf, .int .i64 p6, .dat pw, .dat ph, .int .i64 q1,
 .int .i64 q2, .int .i64 q3, .int .i64 q4, .bool qf, .int .i64 q6,
 .dat qw, .dat qh, .int .i64 r1, .int .i64 r2, .int .i64 r3,
 .int .i64 r4, .bool rf, .int .i64 r6, .dat rw, .dat rh, .dat fl, .dat wa,
 .dat wb, .dat wc, .int .i64 now, .int .i64 clk, .bool rt, .int .i64 st]),
 (1, OBlk.cells 101 [.int .u8 ek, .int .u8 en, .int .u8 ew]),
 (2,
 OBlk.cells 97
 [.int .i64 0, .int .i64 0, .int .i64 0, .int .i64 0, .nils, .nils,
 .lb false, .int .i64 0, .int .i64 0, .int .i64 0, .int .i64 0,
 .lb false, .int .i64 0, .nils, .nils, .int .i64 0, .int .i64 0,
 .int .i64 0, .int .i64 0, .lb false, .int .i64 0, .nils, .nils,
 .int .i64 0, .int .i64 0, .int .i64 0, .int .i64 0, .lb false,
 .int .i64 0, .nils, .nils, .nils, .nils, .nils, .nils, .int .i64 0,
 .int .i64 0, .lb false, .int .i64 0])])) := by kernel_rfl

theorem step0_go : 
 let z1 : List CV := [.int cn, .int cr, .int cp, .int cdl, .dat cps, .dat css, .bool cv, .int p1, .int p2, .int p3, .int p4, .bool pf, .int p6, .dat pw, .dat ph, .int q1, .int q2, .int q3, .int q4, .bool qf, .int q6, .dat qw, .dat qh, .int r1, .int r2, .int r3, .int r4, .bool rf, .int r6, .dat rw, .dat rh, .dat fl, .dat wa, .dat wb, .dat wc, .int now, .int (IntKind.wrap .i64 (clk + 1)), .bool rt, .int st]
 let z2 := (Prod.fst (issueMb (MbD.mb (MbD.mk p1 p2 p3 p4 pf p6 pw ph))))
 let z3 := (Gr.node (durG (grOf z1) (Fin.ofNat 3 0) ew) (Fin.ofNat 3 2))
 let z4 := (Gr.node (durG (grOf z1) (Fin.ofNat 3 0) ew) (Fin.ofNat 3 1))
 let z5 := (Gr.node (durG (grOf z1) (Fin.ofNat 3 0) ew) (Fin.ofNat 3 0))
 let z6 := (Prod.fst (startCo (CoD.co (CoD.mk cn cr cp cdl cps css cv)) now 20))
 let z7 := (Prod.snd (startCo (CoD.co (CoD.mk cn cr cp cdl cps css cv)) now 20))
 exec Try.prog ctS 900 (stepL cn cr cp cdl cps css cv p1 p2 p3 p4 pf p6 pw ph q1 q2 q3 q4 qf q6 qw qh r1 r2 r3 r4 rf r6 rw rh fl wa wb wc now clk rt st ek en ew 0) =
 Tree.need ((7 : Int) ≠ 0) (.br (decide (Int.tmod ek 7 = 0)) (.need ((0 : Int) ≤ 0 ∧ 0 < (↑3 : Int)) (.need (MbD.Right (MbD.mk p1 p2 p3 p4 pf p6 pw ph)) (.all fun hs => .need ((0 : Int) ≤ 0 ∧ 0 < (↑3 : Int))
 (.br rt (.need ((0 : Int) ≤ 0 ∧ 0 < (↑3 : Int)) (.all fun hs_1 => .need ((0 : Int) ≤ 0 ∧ 0 < (↑3 : Int)) (.need (D.sz (D.slc (D.hd (hs_1 1 0)) 4 []) = 4 ∧ D.Fits wa 4 ∧ (D.len (D.slc (D.hd (hs_1 1 0)) 4 []) + D.len wa) * 32 ≤ 140737488355328 ∧ D.len
 (D.slc (D.hd (hs_1 1 0)) 4 []) + D.len wa ≤ 9223372036854775807) (.need (D.sz (D.slc (D.hd (hs_1 6 0)) 4 (List.append (D.rows (D.slc (D.hd (hs_1 1 0)) 4 [])) (D.rows wa))) = 4 ∧ D.Fits (D.slc (D.hd (hs_1 10 0)) 4 [[D.int .i64
 (IntKind.wrap .i64 (clk + 1)), D.int .i64 0, D.int .i64 0, D.int .i64 0]]) 4 ∧ (D.len (D.slc (D.hd (hs_1 6 0)) 4 (List.append (D.rows (D.slc (D.hd (hs_1 1 0)) 4 [])) (D.rows wa))) + D.len (D.slc (D.hd
 (hs_1 10 0)) 4 [[D.int .i64 (IntKind.wrap .i64 (clk + 1)), D.int .i64 0, D.int .i64 0, D.int .i64 0]])) * 32 ≤ 140737488355328 ∧ D.len (D.slc (D.hd (hs_1 6 0)) 4 (List.append (D.rows (D.slc (D.hd (hs_1 1 0)) 4 []))
 (D.rows wa))) + D.len (D.slc (D.hd (hs_1 10 0)) 4 [[D.int .i64 (IntKind.wrap .i64 (clk + 1)), D.int .i64 0, D.int .i64 0, D.int .i64 0]]) ≤ 9223372036854775807) (.need ((0 : Int) ≤ 0 ∧ 0 < (↑3 : Int))
 (.ret (.agg [.int .i64 cn, .int .i64 cr, .int .i64 cp, .int .i64 cdl, .dat cps, .dat css, .bool cv, .int .i64 (Mb.round z2), .int .i64 (Mb.position z2), .int .i64 (Mb.thawed z2), .int .i64 (Mb.issued z2), .bool
 (Mb.frozen z2), .int .i64 (Mb.upto z2), .dat (D.like (hs 0 0) (Mb.waiting z2)), .dat (D.like (hs 0 1) (Mb.held z2)), .int .i64 q1, .int .i64 q2, .int .i64 q3, .int .i64 q4, .bool qf, .int .i64 q6, .dat qw, .dat qh, .int .i64 r1, .int .i64 r2, .int .i64 r3, .int .i64 r4, .bool rf, .int .i64 r6, .dat rw, .dat rh, .dat fl, .dat
 (D.slc (D.hd (hs_1 11 0)) 4 (List.append (D.rows (D.slc (D.hd (hs_1 6 0)) 4 (List.append (D.rows (D.slc (D.hd (hs_1 1 0)) 4 [])) (D.rows wa)))) (D.rows (D.slc (D.hd (hs_1 10 0)) 4 [[D.int .i64 (IntKind.wrap .i64
 (clk + 1)), D.int .i64 0, D.int .i64 0, D.int .i64 0]])))), .dat wb, .dat wc, .int .i64 now, .int .i64 (IntKind.wrap .i64 (clk + 1)), .bool (decide (Prod.snd (issueMb (MbD.mb (MbD.mk p1 p2 p3 p4 pf p6 pw ph))) =
 (↑(D.len wa) : Int))), .int .i64 st]))))))) (.all fun hs_1 => .need ((0 : Int) ≤ 0 ∧ 0 < (↑3 : Int)) (.need (D.sz (D.slc (D.hd (hs_1 1 0)) 4 []) = 4 ∧ D.Fits wa 4 ∧ (D.len (D.slc (D.hd (hs_1 1 0)) 4 []) + D.len wa) * 32 ≤ 140737488355328 ∧ D.len
 (D.slc (D.hd (hs_1 1 0)) 4 []) + D.len wa ≤ 9223372036854775807) (.need (D.sz (D.slc (D.hd (hs_1 6 0)) 4 (List.append (D.rows (D.slc (D.hd (hs_1 1 0)) 4 [])) (D.rows wa))) = 4 ∧ D.Fits (D.slc (D.hd (hs_1 10 0)) 4 [[D.int .i64
 (IntKind.wrap .i64 (clk + 1)), D.int .i64 0, D.int .i64 0, D.int .i64 0]]) 4 ∧ (D.len (D.slc (D.hd (hs_1 6 0)) 4 (List.append (D.rows (D.slc (D.hd (hs_1 1 0)) 4 [])) (D.rows wa))) + D.len (D.slc (D.hd
 (hs_1 10 0)) 4 [[D.int .i64 (IntKind.wrap .i64 (clk + 1)), D.int .i64 0, D.int .i64 0, D.int .i64 0]])) * 32 ≤ 140737488355328 ∧ D.len (D.slc (D.hd (hs_1 6 0)) 4 (List.append (D.rows (D.slc (D.hd (hs_1 1 0)) 4 []))
 (D.rows wa))) + D.len (D.slc (D.hd (hs_1 10 0)) 4 [[D.int .i64 (IntKind.wrap .i64 (clk + 1)), D.int .i64 0, D.int .i64 0, D.int .i64 0]]) ≤ 9223372036854775807) (.need ((0 : Int) ≤ 0 ∧ 0 < (↑3 : Int))
 (.ret (.agg [.int .i64 cn, .int .i64 cr, .int .i64 cp, .int .i64 cdl, .dat cps, .dat css, .bool cv, .int .i64 (Mb.round z2), .int .i64 (Mb.position z2), .int .i64 (Mb.thawed z2), .int .i64 (Mb.issued z2), .bool
 (Mb.frozen z2), .int .i64 (Mb.upto z2), .dat (D.like (hs 0 0) (Mb.waiting z2)), .dat (D.like (hs 0 1) (Mb.held z2)), .int .i64 q1, .int .i64 q2, .int .i64 q3, .int .i64 q4, .bool qf, .int .i64 q6, .dat qw, .dat qh, .int .i64 r1, .int .i64 r2, .int .i64 r3, .int .i64 r4, .bool rf, .int .i64 r6, .dat rw, .dat rh, .dat fl, .dat
 (D.slc (D.hd (hs_1 11 0)) 4 (List.append (D.rows (D.slc (D.hd (hs_1 6 0)) 4 (List.append (D.rows (D.slc (D.hd (hs_1 1 0)) 4 [])) (D.rows wa)))) (D.rows (D.slc (D.hd (hs_1 10 0)) 4 [[D.int .i64 (IntKind.wrap .i64
 (clk + 1)), D.int .i64 0, D.int .i64 0, D.int .i64 0]])))), .dat wb, .dat wc, .int .i64 now, .int .i64 (IntKind.wrap .i64 (clk + 1)), .lb false, .int .i64 st])))))))))) (.br (decide (Int.tmod ek 7 = 1))
 (.need (GrRight z1 ∧ U8 ew ∧ Gr.right (durG (grOf z1) (Fin.ofNat 3 0) ew) = true) (.all fun hs => .ret (.agg [.int .i64 (Co.nodes (Gr.c (durG (grOf z1) (Fin.ofNat 3 0) ew))), .int .i64 (Co.round (Gr.c
 (durG (grOf z1) (Fin.ofNat 3 0) ew))), .int .i64 (Co.phase (Gr.c (durG (grOf z1) (Fin.ofNat 3 0) ew))), .int .i64 (Co.deadline (Gr.c (durG (grOf z1) (Fin.ofNat 3 0) ew))), .dat (D.like (hs 0 0) (Co.positions
 (Gr.c (durG (grOf z1) (Fin.ofNat 3 0) ew)))), .dat (D.like (hs 0 1) (Co.seen (Gr.c (durG (grOf z1) (Fin.ofNat 3 0) ew)))), .bool (Co.valid (Gr.c (durG (grOf z1) (Fin.ofNat 3 0) ew))), .int .i64 (Mb.round z5), .int .i64
 (Mb.position z5), .int .i64 (Mb.thawed z5), .int .i64 (Mb.issued z5), .bool (Mb.frozen z5), .int .i64 (Mb.upto z5), .dat (D.like (hs 0 2) (Mb.waiting z5)), .dat (D.like (hs 0 3) (Mb.held z5)), .int .i64
 (Mb.round z4), .int .i64 (Mb.position z4), .int .i64 (Mb.thawed z4), .int .i64 (Mb.issued z4), .bool (Mb.frozen z4), .int .i64 (Mb.upto z4), .dat (D.like (hs 0 4) (Mb.waiting z4)), .dat (D.like (hs 0 5)
 (Mb.held z4)), .int .i64 (Mb.round z3), .int .i64 (Mb.position z3), .int .i64 (Mb.thawed z3), .int .i64 (Mb.issued z3), .bool (Mb.frozen z3), .int .i64 (Mb.upto z3), .dat (D.like (hs 0 6) (Mb.waiting z3)), .dat
 (D.like (hs 0 7) (Mb.held z3)), .dat (D.like (hs 0 8) (Gr.flight (durG (grOf z1) (Fin.ofNat 3 0) ew))), .dat (D.like (hs 0 9) (Gr.wr (durG (grOf z1) (Fin.ofNat 3 0) ew) (Fin.ofNat 3 0))), .dat (D.like
 (hs 0 10) (Gr.wr (durG (grOf z1) (Fin.ofNat 3 0) ew) (Fin.ofNat 3 1))), .dat (D.like (hs 0 11) (Gr.wr (durG (grOf z1) (Fin.ofNat 3 0) ew) (Fin.ofNat 3 2))), .int .i64 (Gr.now (durG (grOf z1) (Fin.ofNat 3 0) ew)), .int .i64
 (Gr.clock (durG (grOf z1) (Fin.ofNat 3 0) ew)), .bool (Gr.right (durG (grOf z1) (Fin.ofNat 3 0) ew)), .int .i64 (Gr.started (durG (grOf z1) (Fin.ofNat 3 0) ew))]))) (.br (decide (Int.tmod ek 7 = 2)) (.need
 (D.Is Int cps ∧ D.Is Bool css) (.all fun hs => .br (Prod.snd z7 != 0) (.br rt (.ret (.agg [.int .i64 cn, .int .i64 cr, .int .i64 cp, .int .i64 cdl, .dat cps, .dat css, .bool cv, .int .i64 p1, .int .i64 p2, .int .i64 p3, .int .i64 p4, .bool pf, .int .i64 p6, .dat pw, .dat ph, .int .i64 q1, .int .i64 q2, .int .i64 q3, .int .i64 q4, .bool qf, .int .i64 q6, .dat qw, .dat qh, .int .i64 r1, .int .i64 r2, .int .i64 r3, .int .i64 r4, .bool rf, .int .i64 r6, .dat rw, .dat rh, .dat fl, .dat wa, .dat wb, .dat wc, .int .i64 now, .int .i64
 (IntKind.wrap .i64 (clk + 1)), .bool (decide (Prod.snd z7 = 26)), .int .i64 st])) (.ret (.agg [.int .i64 cn, .int .i64 cr, .int .i64 cp, .int .i64 cdl, .dat cps, .dat css, .bool cv, .int .i64 p1, .int .i64 p2, .int .i64 p3, .int .i64 p4, .bool pf, .int .i64 p6, .dat pw, .dat ph, .int .i64 q1, .int .i64 q2, .int .i64 q3, .int .i64 q4, .bool qf, .int .i64 q6, .dat qw, .dat qh, .int .i64 r1, .int .i64 r2, .int .i64 r3, .int .i64 r4, .bool rf, .int .i64 r6, .dat rw, .dat rh, .dat fl, .dat wa, .dat wb, .dat wc, .int .i64 now, .int .i64
 (IntKind.wrap .i64 (clk + 1)), .lb false, .int .i64 st]))) (.need (D.Is Msg fl ∧ D.len fl ≤ 1048576 ∧ D.Is Msg (D.like (hs 0 2) (Prod.fst z7)) ∧ D.len (D.like (hs 0 2) (Prod.fst z7)) ≤ 1048576) (.all fun hs_1 => .ret
 (.agg [.int .i64 (Co.nodes z6), .int .i64 (Co.round z6), .int .i64 (Co.phase z6), .int .i64 (Co.deadline z6), .dat (D.like (hs 0 0) (Co.positions z6)), .dat (D.like (hs 0 1) (Co.seen z6)), .bool (Co.valid z6), .int .i64 p1, .int .i64 p2, .int .i64 p3, .int .i64 p4, .bool pf, .int .i64 p6, .dat pw, .dat ph, .int .i64 q1, .int .i64 q2, .int .i64 q3, .int .i64 q4, .bool qf, .int .i64 q6, .dat qw, .dat qh, .int .i64 r1, .int .i64 r2, .int .i64 r3, .int .i64 r4, .bool rf, .int .i64 r6, .dat rw, .dat rh, .dat
 (D.like (hs_1 0 0) (List.append (D.to Msg fl) (D.to Msg (D.like (hs 0 2) (Prod.fst z7))))), .dat wa, .dat wb, .dat wc, .int .i64 now, .int .i64 (IntKind.wrap .i64 (clk + 1)), .bool rt, .int .i64 (IntKind.wrap .i64
 (st + 1))]))))) (.br (decide (Int.tmod ek 7 = 6)) (.need (GrRight z1 ∧ ((U8 en ∧ U8 ew) ∧ List.length (D.to Msg fl) ≤ 999000) ∧ Gr.right (tickG (grOf z1) en ew) = true) (.all fun hs => .ret (.agg [.int .i64
 (Co.nodes (Gr.c (tickG (grOf z1) en ew))), .int .i64 (Co.round (Gr.c (tickG (grOf z1) en ew))), .int .i64 (Co.phase (Gr.c (tickG (grOf z1) en ew))), .int .i64 (Co.deadline (Gr.c (tickG (grOf z1) en ew))), .dat
 (D.like (hs 0 0) (Co.positions (Gr.c (tickG (grOf z1) en ew)))), .dat (D.like (hs 0 1) (Co.seen (Gr.c (tickG (grOf z1) en ew)))), .bool (Co.valid (Gr.c (tickG (grOf z1) en ew))), .int .i64 (Mb.round (Gr.node
 (tickG (grOf z1) en ew) (Fin.ofNat 3 0))), .int .i64 (Mb.position (Gr.node (tickG (grOf z1) en ew) (Fin.ofNat 3 0))), .int .i64 (Mb.thawed (Gr.node (tickG (grOf z1) en ew) (Fin.ofNat 3 0))), .int .i64
 (Mb.issued (Gr.node (tickG (grOf z1) en ew) (Fin.ofNat 3 0))), .bool (Mb.frozen (Gr.node (tickG (grOf z1) en ew) (Fin.ofNat 3 0))), .int .i64 (Mb.upto (Gr.node (tickG (grOf z1) en ew) (Fin.ofNat 3 0))), .dat
 (D.like (hs 0 2) (Mb.waiting (Gr.node (tickG (grOf z1) en ew) (Fin.ofNat 3 0)))), .dat (D.like (hs 0 3) (Mb.held (Gr.node (tickG (grOf z1) en ew) (Fin.ofNat 3 0)))), .int .i64 (Mb.round (Gr.node (tickG
 (grOf z1) en ew) (Fin.ofNat 3 1))), .int .i64 (Mb.position (Gr.node (tickG (grOf z1) en ew) (Fin.ofNat 3 1))), .int .i64 (Mb.thawed (Gr.node (tickG (grOf z1) en ew) (Fin.ofNat 3 1))), .int .i64 (Mb.issued
 (Gr.node (tickG (grOf z1) en ew) (Fin.ofNat 3 1))), .bool (Mb.frozen (Gr.node (tickG (grOf z1) en ew) (Fin.ofNat 3 1))), .int .i64 (Mb.upto (Gr.node (tickG (grOf z1) en ew) (Fin.ofNat 3 1))), .dat (D.like
 (hs 0 4) (Mb.waiting (Gr.node (tickG (grOf z1) en ew) (Fin.ofNat 3 1)))), .dat (D.like (hs 0 5) (Mb.held (Gr.node (tickG (grOf z1) en ew) (Fin.ofNat 3 1)))), .int .i64 (Mb.round (Gr.node (tickG (grOf z1) en ew)
 (Fin.ofNat 3 2))), .int .i64 (Mb.position (Gr.node (tickG (grOf z1) en ew) (Fin.ofNat 3 2))), .int .i64 (Mb.thawed (Gr.node (tickG (grOf z1) en ew) (Fin.ofNat 3 2))), .int .i64 (Mb.issued (Gr.node (tickG
 (grOf z1) en ew) (Fin.ofNat 3 2))), .bool (Mb.frozen (Gr.node (tickG (grOf z1) en ew) (Fin.ofNat 3 2))), .int .i64 (Mb.upto (Gr.node (tickG (grOf z1) en ew) (Fin.ofNat 3 2))), .dat (D.like (hs 0 6) (Mb.waiting
 (Gr.node (tickG (grOf z1) en ew) (Fin.ofNat 3 2)))), .dat (D.like (hs 0 7) (Mb.held (Gr.node (tickG (grOf z1) en ew) (Fin.ofNat 3 2)))), .dat (D.like (hs 0 8) (Gr.flight (tickG (grOf z1) en ew))), .dat
 (D.like (hs 0 9) (Gr.wr (tickG (grOf z1) en ew) (Fin.ofNat 3 0))), .dat (D.like (hs 0 10) (Gr.wr (tickG (grOf z1) en ew) (Fin.ofNat 3 1))), .dat (D.like (hs 0 11) (Gr.wr (tickG (grOf z1) en ew) (Fin.ofNat 3 2))), .int .i64
 (Gr.now (tickG (grOf z1) en ew)), .int .i64 (Gr.clock (tickG (grOf z1) en ew)), .bool (Gr.right (tickG (grOf z1) en ew)), .int .i64 (Gr.started (tickG (grOf z1) en ew))]))) (.need (GrRight z1 ∧ (U8 ek ∧ U8 ew) ∧ Gr.right
 (flightG (grOf z1) ek ew) = true) (.all fun hs => .ret (.agg [.int .i64 (Co.nodes (Gr.c (flightG (grOf z1) ek ew))), .int .i64 (Co.round (Gr.c (flightG (grOf z1) ek ew))), .int .i64 (Co.phase (Gr.c (flightG
 (grOf z1) ek ew))), .int .i64 (Co.deadline (Gr.c (flightG (grOf z1) ek ew))), .dat (D.like (hs 0 0) (Co.positions (Gr.c (flightG (grOf z1) ek ew)))), .dat (D.like (hs 0 1) (Co.seen (Gr.c (flightG (grOf z1) ek ew)))), .bool
 (Co.valid (Gr.c (flightG (grOf z1) ek ew))), .int .i64 (Mb.round (Gr.node (flightG (grOf z1) ek ew) (Fin.ofNat 3 0))), .int .i64 (Mb.position (Gr.node (flightG (grOf z1) ek ew) (Fin.ofNat 3 0))), .int .i64
 (Mb.thawed (Gr.node (flightG (grOf z1) ek ew) (Fin.ofNat 3 0))), .int .i64 (Mb.issued (Gr.node (flightG (grOf z1) ek ew) (Fin.ofNat 3 0))), .bool (Mb.frozen (Gr.node (flightG (grOf z1) ek ew) (Fin.ofNat 3 0))), .int .i64
 (Mb.upto (Gr.node (flightG (grOf z1) ek ew) (Fin.ofNat 3 0))), .dat (D.like (hs 0 2) (Mb.waiting (Gr.node (flightG (grOf z1) ek ew) (Fin.ofNat 3 0)))), .dat (D.like (hs 0 3) (Mb.held (Gr.node (flightG
 (grOf z1) ek ew) (Fin.ofNat 3 0)))), .int .i64 (Mb.round (Gr.node (flightG (grOf z1) ek ew) (Fin.ofNat 3 1))), .int .i64 (Mb.position (Gr.node (flightG (grOf z1) ek ew) (Fin.ofNat 3 1))), .int .i64 (Mb.thawed
 (Gr.node (flightG (grOf z1) ek ew) (Fin.ofNat 3 1))), .int .i64 (Mb.issued (Gr.node (flightG (grOf z1) ek ew) (Fin.ofNat 3 1))), .bool (Mb.frozen (Gr.node (flightG (grOf z1) ek ew) (Fin.ofNat 3 1))), .int .i64
 (Mb.upto (Gr.node (flightG (grOf z1) ek ew) (Fin.ofNat 3 1))), .dat (D.like (hs 0 4) (Mb.waiting (Gr.node (flightG (grOf z1) ek ew) (Fin.ofNat 3 1)))), .dat (D.like (hs 0 5) (Mb.held (Gr.node (flightG
 (grOf z1) ek ew) (Fin.ofNat 3 1)))), .int .i64 (Mb.round (Gr.node (flightG (grOf z1) ek ew) (Fin.ofNat 3 2))), .int .i64 (Mb.position (Gr.node (flightG (grOf z1) ek ew) (Fin.ofNat 3 2))), .int .i64 (Mb.thawed
 (Gr.node (flightG (grOf z1) ek ew) (Fin.ofNat 3 2))), .int .i64 (Mb.issued (Gr.node (flightG (grOf z1) ek ew) (Fin.ofNat 3 2))), .bool (Mb.frozen (Gr.node (flightG (grOf z1) ek ew) (Fin.ofNat 3 2))), .int .i64
 (Mb.upto (Gr.node (flightG (grOf z1) ek ew) (Fin.ofNat 3 2))), .dat (D.like (hs 0 6) (Mb.waiting (Gr.node (flightG (grOf z1) ek ew) (Fin.ofNat 3 2)))), .dat (D.like (hs 0 7) (Mb.held (Gr.node (flightG
 (grOf z1) ek ew) (Fin.ofNat 3 2)))), .dat (D.like (hs 0 8) (Gr.flight (flightG (grOf z1) ek ew))), .dat (D.like (hs 0 9) (Gr.wr (flightG (grOf z1) ek ew) (Fin.ofNat 3 0))), .dat (D.like (hs 0 10) (Gr.wr
 (flightG (grOf z1) ek ew) (Fin.ofNat 3 1))), .dat (D.like (hs 0 11) (Gr.wr (flightG (grOf z1) ek ew) (Fin.ofNat 3 2))), .int .i64 (Gr.now (flightG (grOf z1) ek ew)), .int .i64 (Gr.clock (flightG (grOf z1) ek ew)), .bool
 (Gr.right (flightG (grOf z1) ek ew)), .int .i64 (Gr.started (flightG (grOf z1) ek ew))]))))))) := by
 intros; kernel_rfl

theorem step1_go : 
 let z1 : List CV := [.int cn, .int cr, .int cp, .int cdl, .dat cps, .dat css, .bool cv, .int p1, .int p2, .int p3, .int p4, .bool pf, .int p6, .dat pw, .dat ph, .int q1, .int q2, .int q3, .int q4, .bool qf, .int q6, .dat qw, .dat qh, .int r1, .int r2, .int r3, .int r4, .bool rf, .int r6, .dat rw, .dat rh, .dat fl, .dat wa, .dat wb, .dat wc, .int now, .int (IntKind.wrap .i64 (clk + 1)), .bool rt, .int st]
 let z2 := (Prod.fst (issueMb (MbD.mb (MbD.mk q1 q2 q3 q4 qf q6 qw qh))))
 let z3 := (Gr.node (durG (grOf z1) (Fin.ofNat 3 1) ew) (Fin.ofNat 3 2))
 let z4 := (Gr.node (durG (grOf z1) (Fin.ofNat 3 1) ew) (Fin.ofNat 3 1))
 let z5 := (Gr.node (durG (grOf z1) (Fin.ofNat 3 1) ew) (Fin.ofNat 3 0))
 let z6 := (Prod.fst (startCo (CoD.co (CoD.mk cn cr cp cdl cps css cv)) now 20))
 let z7 := (Prod.snd (startCo (CoD.co (CoD.mk cn cr cp cdl cps css cv)) now 20))
 exec Try.prog ctS 900 (stepL cn cr cp cdl cps css cv p1 p2 p3 p4 pf p6 pw ph q1 q2 q3 q4 qf q6 qw qh r1 r2 r3 r4 rf r6 rw rh fl wa wb wc now clk rt st ek en ew 1) =
 Tree.need ((7 : Int) ≠ 0) (.br (decide (Int.tmod ek 7 = 0)) (.need ((0 : Int) ≤ 1 ∧ 1 < (↑3 : Int)) (.need (MbD.Right (MbD.mk q1 q2 q3 q4 qf q6 qw qh)) (.all fun hs => .need ((0 : Int) ≤ 1 ∧ 1 < (↑3 : Int))
 (.br rt (.need ((0 : Int) ≤ 1 ∧ 1 < (↑3 : Int)) (.all fun hs_1 => .need ((0 : Int) ≤ 1 ∧ 1 < (↑3 : Int)) (.need (D.sz (D.slc (D.hd (hs_1 1 0)) 4 []) = 4 ∧ D.Fits wb 4 ∧ (D.len (D.slc (D.hd (hs_1 1 0)) 4 []) + D.len wb) * 32 ≤ 140737488355328 ∧ D.len
 (D.slc (D.hd (hs_1 1 0)) 4 []) + D.len wb ≤ 9223372036854775807) (.need (D.sz (D.slc (D.hd (hs_1 6 0)) 4 (List.append (D.rows (D.slc (D.hd (hs_1 1 0)) 4 [])) (D.rows wb))) = 4 ∧ D.Fits (D.slc (D.hd (hs_1 10 0)) 4 [[D.int .i64
 (IntKind.wrap .i64 (clk + 1)), D.int .i64 0, D.int .i64 0, D.int .i64 0]]) 4 ∧ (D.len (D.slc (D.hd (hs_1 6 0)) 4 (List.append (D.rows (D.slc (D.hd (hs_1 1 0)) 4 [])) (D.rows wb))) + D.len (D.slc (D.hd
 (hs_1 10 0)) 4 [[D.int .i64 (IntKind.wrap .i64 (clk + 1)), D.int .i64 0, D.int .i64 0, D.int .i64 0]])) * 32 ≤ 140737488355328 ∧ D.len (D.slc (D.hd (hs_1 6 0)) 4 (List.append (D.rows (D.slc (D.hd (hs_1 1 0)) 4 []))
 (D.rows wb))) + D.len (D.slc (D.hd (hs_1 10 0)) 4 [[D.int .i64 (IntKind.wrap .i64 (clk + 1)), D.int .i64 0, D.int .i64 0, D.int .i64 0]]) ≤ 9223372036854775807) (.need ((0 : Int) ≤ 1 ∧ 1 < (↑3 : Int))
 (.ret (.agg [.int .i64 cn, .int .i64 cr, .int .i64 cp, .int .i64 cdl, .dat cps, .dat css, .bool cv, .int .i64 p1, .int .i64 p2, .int .i64 p3, .int .i64 p4, .bool pf, .int .i64 p6, .dat pw, .dat ph, .int .i64
 (Mb.round z2), .int .i64 (Mb.position z2), .int .i64 (Mb.thawed z2), .int .i64 (Mb.issued z2), .bool (Mb.frozen z2), .int .i64 (Mb.upto z2), .dat (D.like (hs 0 0) (Mb.waiting z2)), .dat (D.like (hs 0 1)
 (Mb.held z2)), .int .i64 r1, .int .i64 r2, .int .i64 r3, .int .i64 r4, .bool rf, .int .i64 r6, .dat rw, .dat rh, .dat fl, .dat wa, .dat (D.slc (D.hd (hs_1 11 0)) 4 (List.append (D.rows (D.slc (D.hd (hs_1 6 0)) 4
 (List.append (D.rows (D.slc (D.hd (hs_1 1 0)) 4 [])) (D.rows wb)))) (D.rows (D.slc (D.hd (hs_1 10 0)) 4 [[D.int .i64 (IntKind.wrap .i64 (clk + 1)), D.int .i64 0, D.int .i64 0, D.int .i64 0]])))), .dat wc, .int .i64 now, .int .i64
 (IntKind.wrap .i64 (clk + 1)), .bool (decide (Prod.snd (issueMb (MbD.mb (MbD.mk q1 q2 q3 q4 qf q6 qw qh))) = (↑(D.len wb) : Int))), .int .i64 st]))))))) (.all fun hs_1 => .need ((0 : Int) ≤ 1 ∧ 1 < (↑3 : Int))
 (.need (D.sz (D.slc (D.hd (hs_1 1 0)) 4 []) = 4 ∧ D.Fits wb 4 ∧ (D.len (D.slc (D.hd (hs_1 1 0)) 4 []) + D.len wb) * 32 ≤ 140737488355328 ∧ D.len (D.slc (D.hd (hs_1 1 0)) 4 []) + D.len wb ≤ 9223372036854775807)
 (.need (D.sz (D.slc (D.hd (hs_1 6 0)) 4 (List.append (D.rows (D.slc (D.hd (hs_1 1 0)) 4 [])) (D.rows wb))) = 4 ∧ D.Fits (D.slc (D.hd (hs_1 10 0)) 4 [[D.int .i64 (IntKind.wrap .i64 (clk + 1)), D.int .i64 0, D.int .i64 0, D.int .i64 0]]) 4 ∧
 (D.len (D.slc (D.hd (hs_1 6 0)) 4 (List.append (D.rows (D.slc (D.hd (hs_1 1 0)) 4 [])) (D.rows wb))) + D.len (D.slc (D.hd (hs_1 10 0)) 4 [[D.int .i64 (IntKind.wrap .i64 (clk + 1)), D.int .i64 0, D.int .i64 0, D.int .i64 0]])) * 32 ≤ 140737488355328 ∧ D.len
 (D.slc (D.hd (hs_1 6 0)) 4 (List.append (D.rows (D.slc (D.hd (hs_1 1 0)) 4 [])) (D.rows wb))) + D.len (D.slc (D.hd (hs_1 10 0)) 4 [[D.int .i64 (IntKind.wrap .i64 (clk + 1)), D.int .i64 0, D.int .i64 0, D.int .i64 0]]) ≤ 9223372036854775807)
 (.need ((0 : Int) ≤ 1 ∧ 1 < (↑3 : Int)) (.ret (.agg [.int .i64 cn, .int .i64 cr, .int .i64 cp, .int .i64 cdl, .dat cps, .dat css, .bool cv, .int .i64 p1, .int .i64 p2, .int .i64 p3, .int .i64 p4, .bool pf, .int .i64 p6, .dat pw, .dat ph, .int .i64
 (Mb.round z2), .int .i64 (Mb.position z2), .int .i64 (Mb.thawed z2), .int .i64 (Mb.issued z2), .bool (Mb.frozen z2), .int .i64 (Mb.upto z2), .dat (D.like (hs 0 0) (Mb.waiting z2)), .dat (D.like (hs 0 1)
 (Mb.held z2)), .int .i64 r1, .int .i64 r2, .int .i64 r3, .int .i64 r4, .bool rf, .int .i64 r6, .dat rw, .dat rh, .dat fl, .dat wa, .dat (D.slc (D.hd (hs_1 11 0)) 4 (List.append (D.rows (D.slc (D.hd (hs_1 6 0)) 4
 (List.append (D.rows (D.slc (D.hd (hs_1 1 0)) 4 [])) (D.rows wb)))) (D.rows (D.slc (D.hd (hs_1 10 0)) 4 [[D.int .i64 (IntKind.wrap .i64 (clk + 1)), D.int .i64 0, D.int .i64 0, D.int .i64 0]])))), .dat wc, .int .i64 now, .int .i64
 (IntKind.wrap .i64 (clk + 1)), .lb false, .int .i64 st])))))))))) (.br (decide (Int.tmod ek 7 = 1)) (.need (GrRight z1 ∧ U8 ew ∧ Gr.right (durG (grOf z1) (Fin.ofNat 3 1) ew) = true) (.all fun hs => .ret
 (.agg [.int .i64 (Co.nodes (Gr.c (durG (grOf z1) (Fin.ofNat 3 1) ew))), .int .i64 (Co.round (Gr.c (durG (grOf z1) (Fin.ofNat 3 1) ew))), .int .i64 (Co.phase (Gr.c (durG (grOf z1) (Fin.ofNat 3 1) ew))), .int .i64
 (Co.deadline (Gr.c (durG (grOf z1) (Fin.ofNat 3 1) ew))), .dat (D.like (hs 0 0) (Co.positions (Gr.c (durG (grOf z1) (Fin.ofNat 3 1) ew)))), .dat (D.like (hs 0 1) (Co.seen (Gr.c (durG (grOf z1) (Fin.ofNat 3 1) ew)))), .bool
 (Co.valid (Gr.c (durG (grOf z1) (Fin.ofNat 3 1) ew))), .int .i64 (Mb.round z5), .int .i64 (Mb.position z5), .int .i64 (Mb.thawed z5), .int .i64 (Mb.issued z5), .bool (Mb.frozen z5), .int .i64 (Mb.upto z5), .dat
 (D.like (hs 0 2) (Mb.waiting z5)), .dat (D.like (hs 0 3) (Mb.held z5)), .int .i64 (Mb.round z4), .int .i64 (Mb.position z4), .int .i64 (Mb.thawed z4), .int .i64 (Mb.issued z4), .bool (Mb.frozen z4), .int .i64
 (Mb.upto z4), .dat (D.like (hs 0 4) (Mb.waiting z4)), .dat (D.like (hs 0 5) (Mb.held z4)), .int .i64 (Mb.round z3), .int .i64 (Mb.position z3), .int .i64 (Mb.thawed z3), .int .i64 (Mb.issued z3), .bool
 (Mb.frozen z3), .int .i64 (Mb.upto z3), .dat (D.like (hs 0 6) (Mb.waiting z3)), .dat (D.like (hs 0 7) (Mb.held z3)), .dat (D.like (hs 0 8) (Gr.flight (durG (grOf z1) (Fin.ofNat 3 1) ew))), .dat (D.like
 (hs 0 9) (Gr.wr (durG (grOf z1) (Fin.ofNat 3 1) ew) (Fin.ofNat 3 0))), .dat (D.like (hs 0 10) (Gr.wr (durG (grOf z1) (Fin.ofNat 3 1) ew) (Fin.ofNat 3 1))), .dat (D.like (hs 0 11) (Gr.wr (durG (grOf z1)
 (Fin.ofNat 3 1) ew) (Fin.ofNat 3 2))), .int .i64 (Gr.now (durG (grOf z1) (Fin.ofNat 3 1) ew)), .int .i64 (Gr.clock (durG (grOf z1) (Fin.ofNat 3 1) ew)), .bool (Gr.right (durG (grOf z1) (Fin.ofNat 3 1) ew)), .int .i64
 (Gr.started (durG (grOf z1) (Fin.ofNat 3 1) ew))]))) (.br (decide (Int.tmod ek 7 = 2)) (.need (D.Is Int cps ∧ D.Is Bool css) (.all fun hs => .br (Prod.snd z7 != 0) (.br rt (.ret (.agg [.int .i64 cn, .int .i64 cr, .int .i64 cp, .int .i64 cdl, .dat cps, .dat css, .bool cv, .int .i64 p1, .int .i64 p2, .int .i64 p3, .int .i64 p4, .bool pf, .int .i64 p6, .dat pw, .dat ph, .int .i64 q1, .int .i64 q2, .int .i64 q3, .int .i64 q4, .bool qf, .int .i64 q6, .dat qw, .dat qh, .int .i64 r1, .int .i64 r2, .int .i64 r3, .int .i64 r4, .bool rf, .int .i64 r6, .dat rw, .dat rh, .dat fl, .dat wa, .dat wb, .dat wc, .int .i64 now, .int .i64
 (IntKind.wrap .i64 (clk + 1)), .bool (decide (Prod.snd z7 = 26)), .int .i64 st])) (.ret (.agg [.int .i64 cn, .int .i64 cr, .int .i64 cp, .int .i64 cdl, .dat cps, .dat css, .bool cv, .int .i64 p1, .int .i64 p2, .int .i64 p3, .int .i64 p4, .bool pf, .int .i64 p6, .dat pw, .dat ph, .int .i64 q1, .int .i64 q2, .int .i64 q3, .int .i64 q4, .bool qf, .int .i64 q6, .dat qw, .dat qh, .int .i64 r1, .int .i64 r2, .int .i64 r3, .int .i64 r4, .bool rf, .int .i64 r6, .dat rw, .dat rh, .dat fl, .dat wa, .dat wb, .dat wc, .int .i64 now, .int .i64
 (IntKind.wrap .i64 (clk + 1)), .lb false, .int .i64 st]))) (.need (D.Is Msg fl ∧ D.len fl ≤ 1048576 ∧ D.Is Msg (D.like (hs 0 2) (Prod.fst z7)) ∧ D.len (D.like (hs 0 2) (Prod.fst z7)) ≤ 1048576) (.all fun hs_1 => .ret
 (.agg [.int .i64 (Co.nodes z6), .int .i64 (Co.round z6), .int .i64 (Co.phase z6), .int .i64 (Co.deadline z6), .dat (D.like (hs 0 0) (Co.positions z6)), .dat (D.like (hs 0 1) (Co.seen z6)), .bool (Co.valid z6), .int .i64 p1, .int .i64 p2, .int .i64 p3, .int .i64 p4, .bool pf, .int .i64 p6, .dat pw, .dat ph, .int .i64 q1, .int .i64 q2, .int .i64 q3, .int .i64 q4, .bool qf, .int .i64 q6, .dat qw, .dat qh, .int .i64 r1, .int .i64 r2, .int .i64 r3, .int .i64 r4, .bool rf, .int .i64 r6, .dat rw, .dat rh, .dat
 (D.like (hs_1 0 0) (List.append (D.to Msg fl) (D.to Msg (D.like (hs 0 2) (Prod.fst z7))))), .dat wa, .dat wb, .dat wc, .int .i64 now, .int .i64 (IntKind.wrap .i64 (clk + 1)), .bool rt, .int .i64 (IntKind.wrap .i64
 (st + 1))]))))) (.br (decide (Int.tmod ek 7 = 6)) (.need (GrRight z1 ∧ ((U8 en ∧ U8 ew) ∧ List.length (D.to Msg fl) ≤ 999000) ∧ Gr.right (tickG (grOf z1) en ew) = true) (.all fun hs => .ret (.agg [.int .i64
 (Co.nodes (Gr.c (tickG (grOf z1) en ew))), .int .i64 (Co.round (Gr.c (tickG (grOf z1) en ew))), .int .i64 (Co.phase (Gr.c (tickG (grOf z1) en ew))), .int .i64 (Co.deadline (Gr.c (tickG (grOf z1) en ew))), .dat
 (D.like (hs 0 0) (Co.positions (Gr.c (tickG (grOf z1) en ew)))), .dat (D.like (hs 0 1) (Co.seen (Gr.c (tickG (grOf z1) en ew)))), .bool (Co.valid (Gr.c (tickG (grOf z1) en ew))), .int .i64 (Mb.round (Gr.node
 (tickG (grOf z1) en ew) (Fin.ofNat 3 0))), .int .i64 (Mb.position (Gr.node (tickG (grOf z1) en ew) (Fin.ofNat 3 0))), .int .i64 (Mb.thawed (Gr.node (tickG (grOf z1) en ew) (Fin.ofNat 3 0))), .int .i64
 (Mb.issued (Gr.node (tickG (grOf z1) en ew) (Fin.ofNat 3 0))), .bool (Mb.frozen (Gr.node (tickG (grOf z1) en ew) (Fin.ofNat 3 0))), .int .i64 (Mb.upto (Gr.node (tickG (grOf z1) en ew) (Fin.ofNat 3 0))), .dat
 (D.like (hs 0 2) (Mb.waiting (Gr.node (tickG (grOf z1) en ew) (Fin.ofNat 3 0)))), .dat (D.like (hs 0 3) (Mb.held (Gr.node (tickG (grOf z1) en ew) (Fin.ofNat 3 0)))), .int .i64 (Mb.round (Gr.node (tickG
 (grOf z1) en ew) (Fin.ofNat 3 1))), .int .i64 (Mb.position (Gr.node (tickG (grOf z1) en ew) (Fin.ofNat 3 1))), .int .i64 (Mb.thawed (Gr.node (tickG (grOf z1) en ew) (Fin.ofNat 3 1))), .int .i64 (Mb.issued
 (Gr.node (tickG (grOf z1) en ew) (Fin.ofNat 3 1))), .bool (Mb.frozen (Gr.node (tickG (grOf z1) en ew) (Fin.ofNat 3 1))), .int .i64 (Mb.upto (Gr.node (tickG (grOf z1) en ew) (Fin.ofNat 3 1))), .dat (D.like
 (hs 0 4) (Mb.waiting (Gr.node (tickG (grOf z1) en ew) (Fin.ofNat 3 1)))), .dat (D.like (hs 0 5) (Mb.held (Gr.node (tickG (grOf z1) en ew) (Fin.ofNat 3 1)))), .int .i64 (Mb.round (Gr.node (tickG (grOf z1) en ew)
 (Fin.ofNat 3 2))), .int .i64 (Mb.position (Gr.node (tickG (grOf z1) en ew) (Fin.ofNat 3 2))), .int .i64 (Mb.thawed (Gr.node (tickG (grOf z1) en ew) (Fin.ofNat 3 2))), .int .i64 (Mb.issued (Gr.node (tickG
 (grOf z1) en ew) (Fin.ofNat 3 2))), .bool (Mb.frozen (Gr.node (tickG (grOf z1) en ew) (Fin.ofNat 3 2))), .int .i64 (Mb.upto (Gr.node (tickG (grOf z1) en ew) (Fin.ofNat 3 2))), .dat (D.like (hs 0 6) (Mb.waiting
 (Gr.node (tickG (grOf z1) en ew) (Fin.ofNat 3 2)))), .dat (D.like (hs 0 7) (Mb.held (Gr.node (tickG (grOf z1) en ew) (Fin.ofNat 3 2)))), .dat (D.like (hs 0 8) (Gr.flight (tickG (grOf z1) en ew))), .dat
 (D.like (hs 0 9) (Gr.wr (tickG (grOf z1) en ew) (Fin.ofNat 3 0))), .dat (D.like (hs 0 10) (Gr.wr (tickG (grOf z1) en ew) (Fin.ofNat 3 1))), .dat (D.like (hs 0 11) (Gr.wr (tickG (grOf z1) en ew) (Fin.ofNat 3 2))), .int .i64
 (Gr.now (tickG (grOf z1) en ew)), .int .i64 (Gr.clock (tickG (grOf z1) en ew)), .bool (Gr.right (tickG (grOf z1) en ew)), .int .i64 (Gr.started (tickG (grOf z1) en ew))]))) (.need (GrRight z1 ∧ (U8 ek ∧ U8 ew) ∧ Gr.right
 (flightG (grOf z1) ek ew) = true) (.all fun hs => .ret (.agg [.int .i64 (Co.nodes (Gr.c (flightG (grOf z1) ek ew))), .int .i64 (Co.round (Gr.c (flightG (grOf z1) ek ew))), .int .i64 (Co.phase (Gr.c (flightG
 (grOf z1) ek ew))), .int .i64 (Co.deadline (Gr.c (flightG (grOf z1) ek ew))), .dat (D.like (hs 0 0) (Co.positions (Gr.c (flightG (grOf z1) ek ew)))), .dat (D.like (hs 0 1) (Co.seen (Gr.c (flightG (grOf z1) ek ew)))), .bool
 (Co.valid (Gr.c (flightG (grOf z1) ek ew))), .int .i64 (Mb.round (Gr.node (flightG (grOf z1) ek ew) (Fin.ofNat 3 0))), .int .i64 (Mb.position (Gr.node (flightG (grOf z1) ek ew) (Fin.ofNat 3 0))), .int .i64
 (Mb.thawed (Gr.node (flightG (grOf z1) ek ew) (Fin.ofNat 3 0))), .int .i64 (Mb.issued (Gr.node (flightG (grOf z1) ek ew) (Fin.ofNat 3 0))), .bool (Mb.frozen (Gr.node (flightG (grOf z1) ek ew) (Fin.ofNat 3 0))), .int .i64
 (Mb.upto (Gr.node (flightG (grOf z1) ek ew) (Fin.ofNat 3 0))), .dat (D.like (hs 0 2) (Mb.waiting (Gr.node (flightG (grOf z1) ek ew) (Fin.ofNat 3 0)))), .dat (D.like (hs 0 3) (Mb.held (Gr.node (flightG
 (grOf z1) ek ew) (Fin.ofNat 3 0)))), .int .i64 (Mb.round (Gr.node (flightG (grOf z1) ek ew) (Fin.ofNat 3 1))), .int .i64 (Mb.position (Gr.node (flightG (grOf z1) ek ew) (Fin.ofNat 3 1))), .int .i64 (Mb.thawed
 (Gr.node (flightG (grOf z1) ek ew) (Fin.ofNat 3 1))), .int .i64 (Mb.issued (Gr.node (flightG (grOf z1) ek ew) (Fin.ofNat 3 1))), .bool (Mb.frozen (Gr.node (flightG (grOf z1) ek ew) (Fin.ofNat 3 1))), .int .i64
 (Mb.upto (Gr.node (flightG (grOf z1) ek ew) (Fin.ofNat 3 1))), .dat (D.like (hs 0 4) (Mb.waiting (Gr.node (flightG (grOf z1) ek ew) (Fin.ofNat 3 1)))), .dat (D.like (hs 0 5) (Mb.held (Gr.node (flightG
 (grOf z1) ek ew) (Fin.ofNat 3 1)))), .int .i64 (Mb.round (Gr.node (flightG (grOf z1) ek ew) (Fin.ofNat 3 2))), .int .i64 (Mb.position (Gr.node (flightG (grOf z1) ek ew) (Fin.ofNat 3 2))), .int .i64 (Mb.thawed
 (Gr.node (flightG (grOf z1) ek ew) (Fin.ofNat 3 2))), .int .i64 (Mb.issued (Gr.node (flightG (grOf z1) ek ew) (Fin.ofNat 3 2))), .bool (Mb.frozen (Gr.node (flightG (grOf z1) ek ew) (Fin.ofNat 3 2))), .int .i64
 (Mb.upto (Gr.node (flightG (grOf z1) ek ew) (Fin.ofNat 3 2))), .dat (D.like (hs 0 6) (Mb.waiting (Gr.node (flightG (grOf z1) ek ew) (Fin.ofNat 3 2)))), .dat (D.like (hs 0 7) (Mb.held (Gr.node (flightG
 (grOf z1) ek ew) (Fin.ofNat 3 2)))), .dat (D.like (hs 0 8) (Gr.flight (flightG (grOf z1) ek ew))), .dat (D.like (hs 0 9) (Gr.wr (flightG (grOf z1) ek ew) (Fin.ofNat 3 0))), .dat (D.like (hs 0 10) (Gr.wr
 (flightG (grOf z1) ek ew) (Fin.ofNat 3 1))), .dat (D.like (hs 0 11) (Gr.wr (flightG (grOf z1) ek ew) (Fin.ofNat 3 2))), .int .i64 (Gr.now (flightG (grOf z1) ek ew)), .int .i64 (Gr.clock (flightG (grOf z1) ek ew)), .bool
 (Gr.right (flightG (grOf z1) ek ew)), .int .i64 (Gr.started (flightG (grOf z1) ek ew))]))))))) := by
 intros; kernel_rfl

theorem step2_go : 
 let z1 : List CV := [.int cn, .int cr, .int cp, .int cdl, .dat cps, .dat css, .bool cv, .int p1, .int p2, .int p3, .int p4, .bool pf, .int p6, .dat pw, .dat ph, .int q1, .int q2, .int q3, .int q4, .bool qf, .int q6, .dat qw, .dat qh, .int r1, .int r2, .int r3, .int r4, .bool rf, .int r6, .dat rw, .dat rh, .dat fl, .dat wa, .dat wb, .dat wc, .int now, .int (IntKind.wrap .i64 (clk + 1)), .bool rt, .int st]
 let z2 := (Prod.fst (issueMb (MbD.mb (MbD.mk r1 r2 r3 r4 rf r6 rw rh))))
 let z3 := (Gr.node (durG (grOf z1) (Fin.ofNat 3 2) ew) (Fin.ofNat 3 2))
 let z4 := (Gr.node (durG (grOf z1) (Fin.ofNat 3 2) ew) (Fin.ofNat 3 1))
 let z5 := (Gr.node (durG (grOf z1) (Fin.ofNat 3 2) ew) (Fin.ofNat 3 0))
 let z6 := (Prod.fst (startCo (CoD.co (CoD.mk cn cr cp cdl cps css cv)) now 20))
 let z7 := (Prod.snd (startCo (CoD.co (CoD.mk cn cr cp cdl cps css cv)) now 20))
 exec Try.prog ctS 900 (stepL cn cr cp cdl cps css cv p1 p2 p3 p4 pf p6 pw ph q1 q2 q3 q4 qf q6 qw qh r1 r2 r3 r4 rf r6 rw rh fl wa wb wc now clk rt st ek en ew 2) =
 Tree.need ((7 : Int) ≠ 0) (.br (decide (Int.tmod ek 7 = 0)) (.need ((0 : Int) ≤ 2 ∧ 2 < (↑3 : Int)) (.need (MbD.Right (MbD.mk r1 r2 r3 r4 rf r6 rw rh)) (.all fun hs => .need ((0 : Int) ≤ 2 ∧ 2 < (↑3 : Int))
 (.br rt (.need ((0 : Int) ≤ 2 ∧ 2 < (↑3 : Int)) (.all fun hs_1 => .need ((0 : Int) ≤ 2 ∧ 2 < (↑3 : Int)) (.need (D.sz (D.slc (D.hd (hs_1 1 0)) 4 []) = 4 ∧ D.Fits wc 4 ∧ (D.len (D.slc (D.hd (hs_1 1 0)) 4 []) + D.len wc) * 32 ≤ 140737488355328 ∧ D.len
 (D.slc (D.hd (hs_1 1 0)) 4 []) + D.len wc ≤ 9223372036854775807) (.need (D.sz (D.slc (D.hd (hs_1 6 0)) 4 (List.append (D.rows (D.slc (D.hd (hs_1 1 0)) 4 [])) (D.rows wc))) = 4 ∧ D.Fits (D.slc (D.hd (hs_1 10 0)) 4 [[D.int .i64
 (IntKind.wrap .i64 (clk + 1)), D.int .i64 0, D.int .i64 0, D.int .i64 0]]) 4 ∧ (D.len (D.slc (D.hd (hs_1 6 0)) 4 (List.append (D.rows (D.slc (D.hd (hs_1 1 0)) 4 [])) (D.rows wc))) + D.len (D.slc (D.hd
 (hs_1 10 0)) 4 [[D.int .i64 (IntKind.wrap .i64 (clk + 1)), D.int .i64 0, D.int .i64 0, D.int .i64 0]])) * 32 ≤ 140737488355328 ∧ D.len (D.slc (D.hd (hs_1 6 0)) 4 (List.append (D.rows (D.slc (D.hd (hs_1 1 0)) 4 []))
 (D.rows wc))) + D.len (D.slc (D.hd (hs_1 10 0)) 4 [[D.int .i64 (IntKind.wrap .i64 (clk + 1)), D.int .i64 0, D.int .i64 0, D.int .i64 0]]) ≤ 9223372036854775807) (.need ((0 : Int) ≤ 2 ∧ 2 < (↑3 : Int))
 (.ret (.agg [.int .i64 cn, .int .i64 cr, .int .i64 cp, .int .i64 cdl, .dat cps, .dat css, .bool cv, .int .i64 p1, .int .i64 p2, .int .i64 p3, .int .i64 p4, .bool pf, .int .i64 p6, .dat pw, .dat ph, .int .i64 q1, .int .i64 q2, .int .i64 q3, .int .i64 q4, .bool qf, .int .i64 q6, .dat qw, .dat qh, .int .i64
 (Mb.round z2), .int .i64 (Mb.position z2), .int .i64 (Mb.thawed z2), .int .i64 (Mb.issued z2), .bool (Mb.frozen z2), .int .i64 (Mb.upto z2), .dat (D.like (hs 0 0) (Mb.waiting z2)), .dat (D.like (hs 0 1)
 (Mb.held z2)), .dat fl, .dat wa, .dat wb, .dat (D.slc (D.hd (hs_1 11 0)) 4 (List.append (D.rows (D.slc (D.hd (hs_1 6 0)) 4 (List.append (D.rows (D.slc (D.hd (hs_1 1 0)) 4 [])) (D.rows wc)))) (D.rows (D.slc
 (D.hd (hs_1 10 0)) 4 [[D.int .i64 (IntKind.wrap .i64 (clk + 1)), D.int .i64 0, D.int .i64 0, D.int .i64 0]])))), .int .i64 now, .int .i64 (IntKind.wrap .i64 (clk + 1)), .bool (decide (Prod.snd (issueMb
 (MbD.mb (MbD.mk r1 r2 r3 r4 rf r6 rw rh))) = (↑(D.len wc) : Int))), .int .i64 st]))))))) (.all fun hs_1 => .need ((0 : Int) ≤ 2 ∧ 2 < (↑3 : Int)) (.need (D.sz (D.slc (D.hd (hs_1 1 0)) 4 []) = 4 ∧ D.Fits wc 4 ∧
 (D.len (D.slc (D.hd (hs_1 1 0)) 4 []) + D.len wc) * 32 ≤ 140737488355328 ∧ D.len (D.slc (D.hd (hs_1 1 0)) 4 []) + D.len wc ≤ 9223372036854775807) (.need (D.sz (D.slc (D.hd (hs_1 6 0)) 4 (List.append (D.rows
 (D.slc (D.hd (hs_1 1 0)) 4 [])) (D.rows wc))) = 4 ∧ D.Fits (D.slc (D.hd (hs_1 10 0)) 4 [[D.int .i64 (IntKind.wrap .i64 (clk + 1)), D.int .i64 0, D.int .i64 0, D.int .i64 0]]) 4 ∧ (D.len (D.slc (D.hd (hs_1 6 0)) 4
 (List.append (D.rows (D.slc (D.hd (hs_1 1 0)) 4 [])) (D.rows wc))) + D.len (D.slc (D.hd (hs_1 10 0)) 4 [[D.int .i64 (IntKind.wrap .i64 (clk + 1)), D.int .i64 0, D.int .i64 0, D.int .i64 0]])) * 32 ≤ 140737488355328 ∧ D.len
 (D.slc (D.hd (hs_1 6 0)) 4 (List.append (D.rows (D.slc (D.hd (hs_1 1 0)) 4 [])) (D.rows wc))) + D.len (D.slc (D.hd (hs_1 10 0)) 4 [[D.int .i64 (IntKind.wrap .i64 (clk + 1)), D.int .i64 0, D.int .i64 0, D.int .i64 0]]) ≤ 9223372036854775807)
 (.need ((0 : Int) ≤ 2 ∧ 2 < (↑3 : Int)) (.ret (.agg [.int .i64 cn, .int .i64 cr, .int .i64 cp, .int .i64 cdl, .dat cps, .dat css, .bool cv, .int .i64 p1, .int .i64 p2, .int .i64 p3, .int .i64 p4, .bool pf, .int .i64 p6, .dat pw, .dat ph, .int .i64 q1, .int .i64 q2, .int .i64 q3, .int .i64 q4, .bool qf, .int .i64 q6, .dat qw, .dat qh, .int .i64
 (Mb.round z2), .int .i64 (Mb.position z2), .int .i64 (Mb.thawed z2), .int .i64 (Mb.issued z2), .bool (Mb.frozen z2), .int .i64 (Mb.upto z2), .dat (D.like (hs 0 0) (Mb.waiting z2)), .dat (D.like (hs 0 1)
 (Mb.held z2)), .dat fl, .dat wa, .dat wb, .dat (D.slc (D.hd (hs_1 11 0)) 4 (List.append (D.rows (D.slc (D.hd (hs_1 6 0)) 4 (List.append (D.rows (D.slc (D.hd (hs_1 1 0)) 4 [])) (D.rows wc)))) (D.rows (D.slc
 (D.hd (hs_1 10 0)) 4 [[D.int .i64 (IntKind.wrap .i64 (clk + 1)), D.int .i64 0, D.int .i64 0, D.int .i64 0]])))), .int .i64 now, .int .i64 (IntKind.wrap .i64 (clk + 1)), .lb false, .int .i64 st]))))))))))
 (.br (decide (Int.tmod ek 7 = 1)) (.need (GrRight z1 ∧ U8 ew ∧ Gr.right (durG (grOf z1) (Fin.ofNat 3 2) ew) = true) (.all fun hs => .ret (.agg [.int .i64 (Co.nodes (Gr.c (durG (grOf z1) (Fin.ofNat 3 2) ew))), .int .i64
 (Co.round (Gr.c (durG (grOf z1) (Fin.ofNat 3 2) ew))), .int .i64 (Co.phase (Gr.c (durG (grOf z1) (Fin.ofNat 3 2) ew))), .int .i64 (Co.deadline (Gr.c (durG (grOf z1) (Fin.ofNat 3 2) ew))), .dat (D.like
 (hs 0 0) (Co.positions (Gr.c (durG (grOf z1) (Fin.ofNat 3 2) ew)))), .dat (D.like (hs 0 1) (Co.seen (Gr.c (durG (grOf z1) (Fin.ofNat 3 2) ew)))), .bool (Co.valid (Gr.c (durG (grOf z1) (Fin.ofNat 3 2) ew))), .int .i64
 (Mb.round z5), .int .i64 (Mb.position z5), .int .i64 (Mb.thawed z5), .int .i64 (Mb.issued z5), .bool (Mb.frozen z5), .int .i64 (Mb.upto z5), .dat (D.like (hs 0 2) (Mb.waiting z5)), .dat (D.like (hs 0 3)
 (Mb.held z5)), .int .i64 (Mb.round z4), .int .i64 (Mb.position z4), .int .i64 (Mb.thawed z4), .int .i64 (Mb.issued z4), .bool (Mb.frozen z4), .int .i64 (Mb.upto z4), .dat (D.like (hs 0 4) (Mb.waiting z4)), .dat
 (D.like (hs 0 5) (Mb.held z4)), .int .i64 (Mb.round z3), .int .i64 (Mb.position z3), .int .i64 (Mb.thawed z3), .int .i64 (Mb.issued z3), .bool (Mb.frozen z3), .int .i64 (Mb.upto z3), .dat (D.like (hs 0 6)
 (Mb.waiting z3)), .dat (D.like (hs 0 7) (Mb.held z3)), .dat (D.like (hs 0 8) (Gr.flight (durG (grOf z1) (Fin.ofNat 3 2) ew))), .dat (D.like (hs 0 9) (Gr.wr (durG (grOf z1) (Fin.ofNat 3 2) ew) (Fin.ofNat 3 0))), .dat
 (D.like (hs 0 10) (Gr.wr (durG (grOf z1) (Fin.ofNat 3 2) ew) (Fin.ofNat 3 1))), .dat (D.like (hs 0 11) (Gr.wr (durG (grOf z1) (Fin.ofNat 3 2) ew) (Fin.ofNat 3 2))), .int .i64 (Gr.now (durG (grOf z1) (Fin.ofNat 3 2) ew)), .int .i64
 (Gr.clock (durG (grOf z1) (Fin.ofNat 3 2) ew)), .bool (Gr.right (durG (grOf z1) (Fin.ofNat 3 2) ew)), .int .i64 (Gr.started (durG (grOf z1) (Fin.ofNat 3 2) ew))]))) (.br (decide (Int.tmod ek 7 = 2)) (.need
 (D.Is Int cps ∧ D.Is Bool css) (.all fun hs => .br (Prod.snd z7 != 0) (.br rt (.ret (.agg [.int .i64 cn, .int .i64 cr, .int .i64 cp, .int .i64 cdl, .dat cps, .dat css, .bool cv, .int .i64 p1, .int .i64 p2, .int .i64 p3, .int .i64 p4, .bool pf, .int .i64 p6, .dat pw, .dat ph, .int .i64 q1, .int .i64 q2, .int .i64 q3, .int .i64 q4, .bool qf, .int .i64 q6, .dat qw, .dat qh, .int .i64 r1, .int .i64 r2, .int .i64 r3, .int .i64 r4, .bool rf, .int .i64 r6, .dat rw, .dat rh, .dat fl, .dat wa, .dat wb, .dat wc, .int .i64 now, .int .i64
 (IntKind.wrap .i64 (clk + 1)), .bool (decide (Prod.snd z7 = 26)), .int .i64 st])) (.ret (.agg [.int .i64 cn, .int .i64 cr, .int .i64 cp, .int .i64 cdl, .dat cps, .dat css, .bool cv, .int .i64 p1, .int .i64 p2, .int .i64 p3, .int .i64 p4, .bool pf, .int .i64 p6, .dat pw, .dat ph, .int .i64 q1, .int .i64 q2, .int .i64 q3, .int .i64 q4, .bool qf, .int .i64 q6, .dat qw, .dat qh, .int .i64 r1, .int .i64 r2, .int .i64 r3, .int .i64 r4, .bool rf, .int .i64 r6, .dat rw, .dat rh, .dat fl, .dat wa, .dat wb, .dat wc, .int .i64 now, .int .i64
 (IntKind.wrap .i64 (clk + 1)), .lb false, .int .i64 st]))) (.need (D.Is Msg fl ∧ D.len fl ≤ 1048576 ∧ D.Is Msg (D.like (hs 0 2) (Prod.fst z7)) ∧ D.len (D.like (hs 0 2) (Prod.fst z7)) ≤ 1048576) (.all fun hs_1 => .ret
 (.agg [.int .i64 (Co.nodes z6), .int .i64 (Co.round z6), .int .i64 (Co.phase z6), .int .i64 (Co.deadline z6), .dat (D.like (hs 0 0) (Co.positions z6)), .dat (D.like (hs 0 1) (Co.seen z6)), .bool (Co.valid z6), .int .i64 p1, .int .i64 p2, .int .i64 p3, .int .i64 p4, .bool pf, .int .i64 p6, .dat pw, .dat ph, .int .i64 q1, .int .i64 q2, .int .i64 q3, .int .i64 q4, .bool qf, .int .i64 q6, .dat qw, .dat qh, .int .i64 r1, .int .i64 r2, .int .i64 r3, .int .i64 r4, .bool rf, .int .i64 r6, .dat rw, .dat rh, .dat
 (D.like (hs_1 0 0) (List.append (D.to Msg fl) (D.to Msg (D.like (hs 0 2) (Prod.fst z7))))), .dat wa, .dat wb, .dat wc, .int .i64 now, .int .i64 (IntKind.wrap .i64 (clk + 1)), .bool rt, .int .i64 (IntKind.wrap .i64
 (st + 1))]))))) (.br (decide (Int.tmod ek 7 = 6)) (.need (GrRight z1 ∧ ((U8 en ∧ U8 ew) ∧ List.length (D.to Msg fl) ≤ 999000) ∧ Gr.right (tickG (grOf z1) en ew) = true) (.all fun hs => .ret (.agg [.int .i64
 (Co.nodes (Gr.c (tickG (grOf z1) en ew))), .int .i64 (Co.round (Gr.c (tickG (grOf z1) en ew))), .int .i64 (Co.phase (Gr.c (tickG (grOf z1) en ew))), .int .i64 (Co.deadline (Gr.c (tickG (grOf z1) en ew))), .dat
 (D.like (hs 0 0) (Co.positions (Gr.c (tickG (grOf z1) en ew)))), .dat (D.like (hs 0 1) (Co.seen (Gr.c (tickG (grOf z1) en ew)))), .bool (Co.valid (Gr.c (tickG (grOf z1) en ew))), .int .i64 (Mb.round (Gr.node
 (tickG (grOf z1) en ew) (Fin.ofNat 3 0))), .int .i64 (Mb.position (Gr.node (tickG (grOf z1) en ew) (Fin.ofNat 3 0))), .int .i64 (Mb.thawed (Gr.node (tickG (grOf z1) en ew) (Fin.ofNat 3 0))), .int .i64
 (Mb.issued (Gr.node (tickG (grOf z1) en ew) (Fin.ofNat 3 0))), .bool (Mb.frozen (Gr.node (tickG (grOf z1) en ew) (Fin.ofNat 3 0))), .int .i64 (Mb.upto (Gr.node (tickG (grOf z1) en ew) (Fin.ofNat 3 0))), .dat
 (D.like (hs 0 2) (Mb.waiting (Gr.node (tickG (grOf z1) en ew) (Fin.ofNat 3 0)))), .dat (D.like (hs 0 3) (Mb.held (Gr.node (tickG (grOf z1) en ew) (Fin.ofNat 3 0)))), .int .i64 (Mb.round (Gr.node (tickG
 (grOf z1) en ew) (Fin.ofNat 3 1))), .int .i64 (Mb.position (Gr.node (tickG (grOf z1) en ew) (Fin.ofNat 3 1))), .int .i64 (Mb.thawed (Gr.node (tickG (grOf z1) en ew) (Fin.ofNat 3 1))), .int .i64 (Mb.issued
 (Gr.node (tickG (grOf z1) en ew) (Fin.ofNat 3 1))), .bool (Mb.frozen (Gr.node (tickG (grOf z1) en ew) (Fin.ofNat 3 1))), .int .i64 (Mb.upto (Gr.node (tickG (grOf z1) en ew) (Fin.ofNat 3 1))), .dat (D.like
 (hs 0 4) (Mb.waiting (Gr.node (tickG (grOf z1) en ew) (Fin.ofNat 3 1)))), .dat (D.like (hs 0 5) (Mb.held (Gr.node (tickG (grOf z1) en ew) (Fin.ofNat 3 1)))), .int .i64 (Mb.round (Gr.node (tickG (grOf z1) en ew)
 (Fin.ofNat 3 2))), .int .i64 (Mb.position (Gr.node (tickG (grOf z1) en ew) (Fin.ofNat 3 2))), .int .i64 (Mb.thawed (Gr.node (tickG (grOf z1) en ew) (Fin.ofNat 3 2))), .int .i64 (Mb.issued (Gr.node (tickG
 (grOf z1) en ew) (Fin.ofNat 3 2))), .bool (Mb.frozen (Gr.node (tickG (grOf z1) en ew) (Fin.ofNat 3 2))), .int .i64 (Mb.upto (Gr.node (tickG (grOf z1) en ew) (Fin.ofNat 3 2))), .dat (D.like (hs 0 6) (Mb.waiting
 (Gr.node (tickG (grOf z1) en ew) (Fin.ofNat 3 2)))), .dat (D.like (hs 0 7) (Mb.held (Gr.node (tickG (grOf z1) en ew) (Fin.ofNat 3 2)))), .dat (D.like (hs 0 8) (Gr.flight (tickG (grOf z1) en ew))), .dat
 (D.like (hs 0 9) (Gr.wr (tickG (grOf z1) en ew) (Fin.ofNat 3 0))), .dat (D.like (hs 0 10) (Gr.wr (tickG (grOf z1) en ew) (Fin.ofNat 3 1))), .dat (D.like (hs 0 11) (Gr.wr (tickG (grOf z1) en ew) (Fin.ofNat 3 2))), .int .i64
 (Gr.now (tickG (grOf z1) en ew)), .int .i64 (Gr.clock (tickG (grOf z1) en ew)), .bool (Gr.right (tickG (grOf z1) en ew)), .int .i64 (Gr.started (tickG (grOf z1) en ew))]))) (.need (GrRight z1 ∧ (U8 ek ∧ U8 ew) ∧ Gr.right
 (flightG (grOf z1) ek ew) = true) (.all fun hs => .ret (.agg [.int .i64 (Co.nodes (Gr.c (flightG (grOf z1) ek ew))), .int .i64 (Co.round (Gr.c (flightG (grOf z1) ek ew))), .int .i64 (Co.phase (Gr.c (flightG
 (grOf z1) ek ew))), .int .i64 (Co.deadline (Gr.c (flightG (grOf z1) ek ew))), .dat (D.like (hs 0 0) (Co.positions (Gr.c (flightG (grOf z1) ek ew)))), .dat (D.like (hs 0 1) (Co.seen (Gr.c (flightG (grOf z1) ek ew)))), .bool
 (Co.valid (Gr.c (flightG (grOf z1) ek ew))), .int .i64 (Mb.round (Gr.node (flightG (grOf z1) ek ew) (Fin.ofNat 3 0))), .int .i64 (Mb.position (Gr.node (flightG (grOf z1) ek ew) (Fin.ofNat 3 0))), .int .i64
 (Mb.thawed (Gr.node (flightG (grOf z1) ek ew) (Fin.ofNat 3 0))), .int .i64 (Mb.issued (Gr.node (flightG (grOf z1) ek ew) (Fin.ofNat 3 0))), .bool (Mb.frozen (Gr.node (flightG (grOf z1) ek ew) (Fin.ofNat 3 0))), .int .i64
 (Mb.upto (Gr.node (flightG (grOf z1) ek ew) (Fin.ofNat 3 0))), .dat (D.like (hs 0 2) (Mb.waiting (Gr.node (flightG (grOf z1) ek ew) (Fin.ofNat 3 0)))), .dat (D.like (hs 0 3) (Mb.held (Gr.node (flightG
 (grOf z1) ek ew) (Fin.ofNat 3 0)))), .int .i64 (Mb.round (Gr.node (flightG (grOf z1) ek ew) (Fin.ofNat 3 1))), .int .i64 (Mb.position (Gr.node (flightG (grOf z1) ek ew) (Fin.ofNat 3 1))), .int .i64 (Mb.thawed
 (Gr.node (flightG (grOf z1) ek ew) (Fin.ofNat 3 1))), .int .i64 (Mb.issued (Gr.node (flightG (grOf z1) ek ew) (Fin.ofNat 3 1))), .bool (Mb.frozen (Gr.node (flightG (grOf z1) ek ew) (Fin.ofNat 3 1))), .int .i64
 (Mb.upto (Gr.node (flightG (grOf z1) ek ew) (Fin.ofNat 3 1))), .dat (D.like (hs 0 4) (Mb.waiting (Gr.node (flightG (grOf z1) ek ew) (Fin.ofNat 3 1)))), .dat (D.like (hs 0 5) (Mb.held (Gr.node (flightG
 (grOf z1) ek ew) (Fin.ofNat 3 1)))), .int .i64 (Mb.round (Gr.node (flightG (grOf z1) ek ew) (Fin.ofNat 3 2))), .int .i64 (Mb.position (Gr.node (flightG (grOf z1) ek ew) (Fin.ofNat 3 2))), .int .i64 (Mb.thawed
 (Gr.node (flightG (grOf z1) ek ew) (Fin.ofNat 3 2))), .int .i64 (Mb.issued (Gr.node (flightG (grOf z1) ek ew) (Fin.ofNat 3 2))), .bool (Mb.frozen (Gr.node (flightG (grOf z1) ek ew) (Fin.ofNat 3 2))), .int .i64
 (Mb.upto (Gr.node (flightG (grOf z1) ek ew) (Fin.ofNat 3 2))), .dat (D.like (hs 0 6) (Mb.waiting (Gr.node (flightG (grOf z1) ek ew) (Fin.ofNat 3 2)))), .dat (D.like (hs 0 7) (Mb.held (Gr.node (flightG
 (grOf z1) ek ew) (Fin.ofNat 3 2)))), .dat (D.like (hs 0 8) (Gr.flight (flightG (grOf z1) ek ew))), .dat (D.like (hs 0 9) (Gr.wr (flightG (grOf z1) ek ew) (Fin.ofNat 3 0))), .dat (D.like (hs 0 10) (Gr.wr
 (flightG (grOf z1) ek ew) (Fin.ofNat 3 1))), .dat (D.like (hs 0 11) (Gr.wr (flightG (grOf z1) ek ew) (Fin.ofNat 3 2))), .int .i64 (Gr.now (flightG (grOf z1) ek ew)), .int .i64 (Gr.clock (flightG (grOf z1) ek ew)), .bool
 (Gr.right (flightG (grOf z1) ek ew)), .int .i64 (Gr.started (flightG (grOf z1) ek ew))]))))))) := by
 intros; kernel_rfl

end
end Go.Proofs.Ytoechplbhbalaaa
end
