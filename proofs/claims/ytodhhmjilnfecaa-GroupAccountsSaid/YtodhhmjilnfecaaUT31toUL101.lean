/- Layer 15: isClosed, walked up to its first loop over a function. -/
import Derived.KernelRfl
import Derived.Test.YtodhhmjilnfecaaSptoUL31
import Derived.Test.YtodhhmjilnfecaaOvtoDl
import Derived.Test.YtodhhmjilnfecaaVwtoUT12
set_option linter.all false
section
open Go Go.Proofs Sx
namespace Go.Proofs.Ytodhhmjilnfecaa
set_option maxRecDepth 100000
set_option maxHeartbeats 0
noncomputable def ctB : Ctrs := [(96, ctrOf ((rdTl.three rdInt rdInt).sp spBefT))]
section
variable (ha hb hc i o a : D)
theorem icl_in : execQ Try.prog ctB 300 (entry Try.prog 70 [.agg [.dat ha, .dat hb, .dat hc, .dat i, .dat o], .dat a]) =
 Tree.need
 (0 ≤ (↑(D.len hb) : Int) ∧
 (↑(D.len hb) : Int) = (↑(D.len hb) : Int) ∧
 (↑1 : Int) * (↑(D.len hb) : Int) ≤ 281474976710656 ∧ (↑(D.len hb) : Int) ≤ 9223372036854775807)
 (.all fun hs =>
 .leaf
 (Conf.mk
 (SFrm.mk 70 none none
 [Item.code (cAt Try.prog 70 [1, 1, 0, 1, 0]), Item.inBlock 0, Item.code (cAt Try.prog 70 [1, 1, 1])]
 (mkU
 [(0, SV.junk 0), (1, .dat a), (2, .ptr 0 0), (3, SV.junk 3), (4, .ptr 1 0), (5, .ptr 2 0),
 (7, SV.junk 7), (8, SV.junk 8), (9, SV.junk 9), (10, SV.junk 10), (11, SV.junk 11), (12, SV.junk 12),
 (13, SV.junk 13), (14, SV.junk 14), (15, SV.junk 15), (16, SV.fn 100 [] [.ptr 3 0, .ptr 4 0]),
 (18, SV.junk 18), (22, SV.junk 22), (23, SV.junk 23), (24, SV.junk 24), (25, SV.junk 25),
 (26, SV.junk 26), (27, SV.junk 27), (28, SV.junk 28), (29, SV.junk 29), (30, SV.junk 30),
 (31, SV.junk 31), (32, SV.junk 32), (33, SV.junk 33), (34, SV.junk 34), (35, SV.junk 35),
 (36, SV.junk 36), (37, SV.junk 37), (38, SV.junk 38), (39, SV.junk 39), (40, SV.junk 40),
 (41, SV.junk 41), (42, SV.junk 42), (43, SV.junk 43), (44, SV.junk 44), (45, SV.junk 45),
 (46, SV.junk 46)]
 0 47))
 []
 [(0, OBlk.cells 121 [.dat ha, .dat hb, .dat hc, .dat i, .dat o]), (1, OBlk.cells 4 [.lb false]),
 (2, OBlk.cells 87 [.vec 5]), (3, OBlk.cells 22 [.dat a]),
 (4, OBlk.cells 121 [.dat ha, .dat hb, .dat hc, .dat i, .dat o]),
 (5, OBlk.arr 4 (D.slc (D.hd (hs 0 0)) 1 (List.replicate (Int.toNat (↑(D.len hb) : Int)) [D.bool false])))])) := by kernel_rfl

end
end Go.Proofs.Ytodhhmjilnfecaa
end
section
open Go Go.Proofs Sx
namespace Go.Proofs.Ytodhhmjilnfecaa
set_option maxRecDepth 100000
set_option maxHeartbeats 0
noncomputable def clK : List Item := [Item.inBlock 0, Item.code (cAt Try.prog 70 [1, 1, 1])]
noncomputable def clT (a : D) : List SV := mkU [(0, SV.junk 0), (1, .dat a), (2, .ptr 100000 0), (3, SV.junk 3), (4, .ptr 100001 0), (5, .ptr 100002 0), (7, SV.junk 7), (8, SV.junk 8), (9, SV.junk 9), (10, SV.junk 10), (11, SV.junk 11), (12, SV.junk 12), (13, SV.junk 13), (14, SV.junk 14), (15, SV.junk 15), (16, SV.fn 100 [] [.ptr 100003 0, .ptr 100004 0]), (18, SV.junk 18), (22, SV.junk 22), (23, SV.junk 23), (24, SV.junk 24), (25, SV.junk 25), (26, SV.junk 26), (27, SV.junk 27), (28, SV.junk 28), (29, SV.junk 29), (30, SV.junk 30), (31, SV.junk 31), (32, SV.junk 32), (33, SV.junk 33), (34, SV.junk 34), (35, SV.junk 35), (36, SV.junk 36), (37, SV.junk 37), (38, SV.junk 38), (39, SV.junk 39), (40, SV.junk 40), (41, SV.junk 41), (42, SV.junk 42), (43, SV.junk 43), (44, SV.junk 44), (45, SV.junk 45), (46, SV.junk 46)] 0 47
noncomputable def clM (ha hb hc i o a q : D) : Mem := (100003, OBlk.cells 22 [.dat a]) :: (100004, OBlk.cells 121 [.dat ha, .dat hb, .dat hc, .dat i, .dat o]) :: [(100000, OBlk.cells 121 [.dat ha, .dat hb, .dat hc, .dat i, .dat o]), (100001, OBlk.cells 4 [.lb false]), (100002, OBlk.cells 87 [.vec 100005]), (100005, OBlk.arr 4 q)]
noncomputable def clR (hb a : D) (z : Int) : List SV := ((clT a).set 17 (.int .i64 z)).set 18 (wvH hb z)
section
variable (ha hb hc i o a q : D) (z : Int)
theorem cla_go : execP Try.prog [] 100 ⟨⟨70, none, none, [.code (cAt Try.prog 70 [1, 1, 0, 1, 0, 0])], clR hb a z⟩, [], clM ha hb hc i o a q⟩ =
 Tree.leaf
 (Conf.mk
 (SFrm.mk 70 none none []
 (mkU
 [(0, SV.junk 0), (1, .dat a), (2, .ptr 100000 0), (3, SV.junk 3), (4, .ptr 100001 0),
 (5, .ptr 100002 0), (6, .int .i64 z), (7, SV.junk 7), (8, SV.junk 8), (9, SV.junk 9),
 (10, SV.junk 10), (11, SV.junk 11), (12, SV.junk 12), (13, SV.junk 13), (14, SV.junk 14), (15, SV.junk 15),
 (16, SV.fn 100 [] [.ptr 100003 0, .ptr 100004 0]), (17, .int .i64 z),
 (18,
 .agg
 [.int .i64 (D.getInt hb (Int.toNat z) 0), .int .i64 (D.getInt hb (Int.toNat z) 1),
 .dat (D.cell hb (Int.toNat z) 2)]),
 (22, SV.junk 22), (23, SV.junk 23), (24, SV.junk 24), (25, SV.junk 25), (26, SV.junk 26), (27, SV.junk 27),
 (28, SV.junk 28), (29, SV.junk 29), (30, SV.junk 30), (31, SV.junk 31), (32, SV.junk 32), (33, SV.junk 33),
 (34, SV.junk 34), (35, SV.junk 35), (36, SV.junk 36), (37, SV.junk 37), (38, SV.junk 38), (39, SV.junk 39),
 (40, SV.junk 40), (41, SV.junk 41), (42, SV.junk 42), (43, SV.junk 43), (44, SV.junk 44), (45, SV.junk 45),
 (46, SV.junk 46)]
 0 47))
 []
 [(100003, OBlk.cells 22 [.dat a]), (100004, OBlk.cells 121 [.dat ha, .dat hb, .dat hc, .dat i, .dat o]),
 (100000, OBlk.cells 121 [.dat ha, .dat hb, .dat hc, .dat i, .dat o]),
 (100001, OBlk.cells 4 [.lb false]), (100002, OBlk.cells 87 [.vec 100005]), (100005, OBlk.arr 4 q)]) := by kernel_rfl

theorem clb_go : execP Try.prog [] 100 ⟨⟨70, none, none, [.code (cAt Try.prog 70 [1, 1, 0, 1, 0, 1])], (clR hb a z).set 6 (.int .i64 z)⟩, [], clM ha hb hc i o a q⟩ =
 Tree.need (0 ≤ z ∧ z < (↑(D.len q) : Int) ∧ D.sz q = 1)
 (.need (Int.toNat z < D.len q ∧ 1 ≤ D.sz q ∧ D.sz q = 1)
 (.leaf
 (Conf.mk
 (SFrm.mk 70 none none []
 (mkJ 0
 [(1, .dat a), (2, .ptr 100000 0), (4, .ptr 100001 0), (5, .ptr 100002 0), (6, .int .i64 z),
 (16, SV.fn 100 [] [.ptr 100003 0, .ptr 100004 0]), (17, .int .i64 z),
 (18,
 .agg
 [.int .i64 (D.getInt hb (Int.toNat z) 0), .int .i64 (D.getInt hb (Int.toNat z) 1),
 .dat (D.cell hb (Int.toNat z) 2)]),
 (19, .vec 100005), (20, .int .i64 z), (21, SV.velt 100005 1 (Int.toNat z) 0)]
 0 47))
 []
 [(100003, OBlk.cells 22 [.dat a]),
 (100004, OBlk.cells 121 [.dat ha, .dat hb, .dat hc, .dat i, .dat o]),
 (100000, OBlk.cells 121 [.dat ha, .dat hb, .dat hc, .dat i, .dat o]),
 (100001, OBlk.cells 4 [.lb false]), (100002, OBlk.cells 87 [.vec 100005]),
 (100005, OBlk.arr 4 (D.setCells q (Int.toNat z) 0 [D.bool true]))]))) := by kernel_rfl

theorem clq_in : execQ Try.prog ctB 300 ⟨⟨70, none, none, clK, clT a⟩, [], clM ha hb hc i o a q⟩ =
 Tree.leaf
 (Conf.mk
 (SFrm.mk 70 none none
 [Item.code (cAt Try.prog 70 [1, 1, 1, 0, 1, 0]), Item.inBlock 2, Item.code (cAt Try.prog 70 [1, 1, 1, 1])]
 (mkU
 [(0, SV.junk 0), (1, .dat a), (2, .ptr 100000 0), (3, SV.junk 3), (4, .ptr 100001 0),
 (5, .ptr 100002 0), (7, SV.junk 7), (8, SV.junk 8), (9, SV.junk 9), (10, SV.junk 10), (11, SV.junk 11),
 (12, SV.junk 12), (13, SV.junk 13), (14, SV.junk 14), (15, SV.junk 15),
 (16, SV.fn 100 [] [.ptr 100003 0, .ptr 100004 0]), (18, SV.junk 18),
 (22, .agg [.dat ha, .dat hb, .dat hc, .dat i, .dat o]), (23, .dat a),
 (24, SV.fn 100 [] [.ptr 5 0, .ptr 6 0]), (25, SV.junk 25), (26, SV.junk 26), (27, SV.junk 27),
 (28, SV.junk 28), (29, SV.junk 29), (30, SV.junk 30), (31, SV.junk 31), (32, SV.junk 32), (33, SV.junk 33),
 (34, SV.junk 34), (35, SV.junk 35), (36, SV.junk 36), (37, SV.junk 37), (38, SV.junk 38), (39, SV.junk 39),
 (40, SV.junk 40), (41, SV.junk 41), (42, SV.junk 42), (43, SV.junk 43), (44, SV.junk 44), (45, SV.junk 45),
 (46, SV.junk 46)]
 0 47))
 []
 [(5, OBlk.cells 22 [.dat a]), (6, OBlk.cells 121 [.dat ha, .dat hb, .dat hc, .dat i, .dat o]),
 (100000, OBlk.cells 121 [.dat ha, .dat hb, .dat hc, .dat i, .dat o]),
 (100001, OBlk.cells 4 [.lb false]), (100002, OBlk.cells 87 [.vec 100005]), (100003, OBlk.cells 22 [.dat a]),
 (100004, OBlk.cells 121 [.dat ha, .dat hb, .dat hc, .dat i, .dat o]), (100005, OBlk.arr 4 q)]) := by kernel_rfl

end
end Go.Proofs.Ytodhhmjilnfecaa
end
section
open Go Go.Proofs Sx
namespace Go.Proofs.Ytodhhmjilnfecaa
set_option maxRecDepth 100000
set_option maxHeartbeats 0
noncomputable def cmK : List Item := [Item.inBlock 2, Item.code (cAt Try.prog 70 [1, 1, 1, 1])]
noncomputable def cmT (ha hb hc i o a : D) : List SV := mkU [(0, SV.junk 0), (1, .dat a), (2, .ptr 100000 0), (3, SV.junk 3), (4, .ptr 100001 0), (5, .ptr 100002 0), (7, SV.junk 7), (8, SV.junk 8), (9, SV.junk 9), (10, SV.junk 10), (11, SV.junk 11), (12, SV.junk 12), (13, SV.junk 13), (14, SV.junk 14), (15, SV.junk 15), (16, SV.fn 100 [] [.ptr 100003 0, .ptr 100004 0]), (18, SV.junk 18), (22, .agg [.dat ha, .dat hb, .dat hc, .dat i, .dat o]), (23, .dat a), (24, SV.fn 100 [] [.ptr 200005 0, .ptr 200006 0]), (25, SV.junk 25), (26, SV.junk 26), (27, SV.junk 27), (28, SV.junk 28), (29, SV.junk 29), (30, SV.junk 30), (31, SV.junk 31), (32, SV.junk 32), (33, SV.junk 33), (34, SV.junk 34), (35, SV.junk 35), (36, SV.junk 36), (37, SV.junk 37), (38, SV.junk 38), (39, SV.junk 39), (40, SV.junk 40), (41, SV.junk 41), (42, SV.junk 42), (43, SV.junk 43), (44, SV.junk 44), (45, SV.junk 45), (46, SV.junk 46)] 0 47
noncomputable def cmM (ha hb hc i o a q : D) : Mem := (200005, OBlk.cells 22 [.dat a]) :: (200006, OBlk.cells 121 [.dat ha, .dat hb, .dat hc, .dat i, .dat o]) :: [(100000, OBlk.cells 121 [.dat ha, .dat hb, .dat hc, .dat i, .dat o]), (100001, OBlk.cells 4 [.lb false]), (100002, OBlk.cells 87 [.vec 100005]), (100003, OBlk.cells 22 [.dat a]), (100004, OBlk.cells 121 [.dat ha, .dat hb, .dat hc, .dat i, .dat o]), (100005, OBlk.arr 4 q)]
noncomputable def cmR (ha hb hc i o a : D) (z : Int) : List SV := ((cmT ha hb hc i o a).set 25 (.int .i64 z)).set 26 (wvH hb z)
section
variable (ha hb hc i o a q : D) (z : Int)
theorem cma_go : execP Try.prog [] 100 ⟨⟨70, none, none, [.code (cAt Try.prog 70 [1, 1, 1, 0, 1, 0, 0])], cmR ha hb hc i o a z⟩, [], cmM ha hb hc i o a q⟩ =
 Tree.leaf
 (Conf.mk
 (SFrm.mk 70 none none []
 (mkU
 [(0, SV.junk 0), (1, .dat a), (2, .ptr 100000 0), (3, SV.junk 3), (4, .ptr 100001 0),
 (5, .ptr 100002 0), (7, .int .i64 z), (8, SV.junk 8), (9, SV.junk 9), (10, SV.junk 10),
 (11, SV.junk 11), (12, SV.junk 12), (13, SV.junk 13), (14, SV.junk 14), (15, SV.junk 15),
 (16, SV.fn 100 [] [.ptr 100003 0, .ptr 100004 0]), (18, SV.junk 18),
 (22, .agg [.dat ha, .dat hb, .dat hc, .dat i, .dat o]), (23, .dat a),
 (24, SV.fn 100 [] [.ptr 200005 0, .ptr 200006 0]), (25, .int .i64 z),
 (26,
 .agg
 [.int .i64 (D.getInt hb (Int.toNat z) 0), .int .i64 (D.getInt hb (Int.toNat z) 1),
 .dat (D.cell hb (Int.toNat z) 2)]),
 (27, SV.junk 27), (28, SV.junk 28), (29, SV.junk 29), (30, SV.junk 30), (31, SV.junk 31), (32, SV.junk 32),
 (33, SV.junk 33), (34, SV.junk 34), (35, SV.junk 35), (36, SV.junk 36), (37, SV.junk 37), (38, SV.junk 38),
 (39, SV.junk 39), (40, SV.junk 40), (41, SV.junk 41), (42, SV.junk 42), (43, SV.junk 43), (44, SV.junk 44),
 (45, SV.junk 45), (46, SV.junk 46)]
 0 47))
 []
 [(200005, OBlk.cells 22 [.dat a]), (200006, OBlk.cells 121 [.dat ha, .dat hb, .dat hc, .dat i, .dat o]),
 (100000, OBlk.cells 121 [.dat ha, .dat hb, .dat hc, .dat i, .dat o]),
 (100001, OBlk.cells 4 [.lb false]), (100002, OBlk.cells 87 [.vec 100005]), (100003, OBlk.cells 22 [.dat a]),
 (100004, OBlk.cells 121 [.dat ha, .dat hb, .dat hc, .dat i, .dat o]), (100005, OBlk.arr 4 q)]) := by kernel_rfl

theorem cmb_go : execP Try.prog ctB 100 ⟨⟨70, none, none, [.code (cAt Try.prog 70 [1, 1, 1, 0, 1, 0, 1])], (cmR ha hb hc i o a z).set 7 (.int .i64 z)⟩, [], cmM ha hb hc i o a q⟩ =
 Tree.leaf
 (Conf.mk
 (SFrm.mk 70 none none
 [Item.inLoop (cAt Try.prog 70 [1, 1, 1, 0, 1, 0, 1, 0, 1, 0, 0]), Item.inBlock 4, Item.inBlock 3]
 (mkJ 0
 [(2, .ptr 100000 0), (4, .ptr 100001 0), (5, .ptr 100002 0), (7, .int .i64 z),
 (30, .int .i64 (↑(D.len hb) : Int)), (31, .int .i64 0)]
 0 47))
 []
 [(100000, OBlk.cells 121 [.dat ha, .dat hb, .dat hc, .dat i, .dat o]),
 (100001, OBlk.cells 4 [.lb false]), (100002, OBlk.cells 87 [.vec 100005]), (100003, OBlk.cells 22 [.dat a]),
 (100004, OBlk.cells 121 [.dat ha, .dat hb, .dat hc, .dat i, .dat o]), (100005, OBlk.arr 4 q),
 (200005, OBlk.cells 22 [.dat a]),
 (200006, OBlk.cells 121 [.dat ha, .dat hb, .dat hc, .dat i, .dat o])]) := by kernel_rfl

theorem cme_in : execQ Try.prog ctB 300 ⟨⟨70, none, none, cmK, cmT ha hb hc i o a⟩, [], cmM ha hb hc i o a q⟩ =
 Tree.ret (.lb true) := by kernel_rfl

theorem cms_in : execQ Try.prog ctB 300 ⟨⟨70, none, none, .code .ret :: cmK, cmT ha hb hc i o a⟩, [], cmM ha hb hc i o a q⟩ =
 Tree.ret (.lb false) := by kernel_rfl

end
end Go.Proofs.Ytodhhmjilnfecaa
end
section
open Go Go.Proofs Sx
namespace Go.Proofs.Ytodhhmjilnfecaa
set_option maxRecDepth 100000
set_option maxHeartbeats 0
noncomputable def cmL (ha hb hc i o a q : D) (z j : Int) : Conf := Conf.mk (SFrm.mk 70 none none [Item.inLoop (cAt Try.prog 70 [1, 1, 1, 0, 1, 0, 1, 0, 1, 0, 0]), Item.inBlock 4, Item.inBlock 3] (mkJ 0 [(2, .ptr 100000 0), (4, .ptr 100001 0), (5, .ptr 100002 0), (7, .int .i64 z), (30, .int .i64 (D.len hb : Int)), (31, .int .i64 j)] 0 47)) [] [(100000, OBlk.cells 121 [.dat ha, .dat hb, .dat hc, .dat i, .dat o]), (100001, OBlk.cells 4 [.lb false]), (100002, OBlk.cells 87 [.vec 100005]), (100003, OBlk.cells 22 [.dat a]), (100004, OBlk.cells 121 [.dat ha, .dat hb, .dat hc, .dat i, .dat o]), (100005, OBlk.arr 4 q), (200005, OBlk.cells 22 [.dat a]), (200006, OBlk.cells 121 [.dat ha, .dat hb, .dat hc, .dat i, .dat o])]
section
variable (ha hb hc i o a q : D) (z j : Int)
theorem cml_go : 
 let z1 : Tree := (.leaf (Conf.mk (SFrm.mk 70 none none [Item.inLoop (cAt Try.prog 70 [1, 1, 1, 0, 1, 0, 1, 0, 1, 0, 0]), Item.inBlock 4, Item.inBlock 3] (mkJ 0 [(2, .ptr 100000 0), (4, .ptr 100001 0), (5, .ptr 100002 0), (7, .int .i64 z), (30, .int .i64 (↑(D.len hb) : Int)), (31, .int .i64 (IntKind.wrap .i64 (j + 1)))] 0 47)) [] [(100000, OBlk.cells 121 [.dat ha, .dat hb, .dat hc, .dat i, .dat o]), (100001, OBlk.cells 4 [.lb false]), (100002, OBlk.cells 87 [.vec 100005]), (100003, OBlk.cells 22 [.dat a]), (100004, OBlk.cells 121 [.dat ha, .dat hb, .dat hc, .dat i, .dat o]), (100005, OBlk.arr 4 q), (200005, OBlk.cells 22 [.dat a]), (200006, OBlk.cells 121 [.dat ha, .dat hb, .dat hc, .dat i, .dat o])]))
 execP Try.prog ctB 300 (unroll (cmL ha hb hc i o a q z j)) =
 Tree.br (decide (j < (↑(D.len hb) : Int))) (.need (0 ≤ j ∧ j < (↑(D.len q) : Int) ∧ D.sz q = 1) (.need (D.HasCell q (Int.toNat j) 0 FT.bool ∧ D.sz q = 1) (.br (!D.getBool q (Int.toNat j) 0) (.need (D.Is Int i ∧ D.Is Int o ∧ 0 ≤ j ∧ j <
 (↑(List.length (D.to Int o)) : Int) ∧ 0 ≤ z ∧ z < (↑(List.length (D.to Int i)) : Int)) (.br (beforeT (TlD.tl (TlD.mk i o)) j z) (.leaf (Conf.mk (SFrm.mk 70 none none [Item.code (cAt Try.prog 70 [1, 1, 1, 0, 1, 0, 1, 0, 1, 0, 0, 1, 1, 0, 0, 1, 1, 0, 1]), Item.inBlock 5, Item.code
 (cAt Try.prog 70 [1, 1, 1, 0, 1, 0, 1, 0, 1, 0, 0, 1, 1, 1]), Item.inLoop (cAt Try.prog 70 [1, 1, 1, 0, 1, 0, 1, 0, 1, 0, 0]), Item.inBlock 4, Item.inBlock 3] (mkJ 0 [(2, .ptr 100000 0), (4, .ptr 100001 0),
 (5, .ptr 100002 0), (7, .int .i64 z), (8, .int .i64 j), (30, .int .i64 (↑(D.len hb) : Int)), (31, .int .i64 j), (32, .bool (decide (j < (↑(D.len hb) : Int)))), (33, .int .i64 j), (34, .vec 100005), (35, .int .i64 j),
 (36, SV.velt 100005 1 (Int.toNat j) 0), (37, .bool (D.getBool q (Int.toNat j) 0)), (38, .bool !D.getBool q (Int.toNat j) 0), (39, .lb true), (40, .ptr 100000 3), (41, .agg [.dat i, .dat o]), (42, .int .i64 j),
 (43, .int .i64 z), (44, .bool (beforeT (TlD.tl (TlD.mk i o)) j z)), (45, .bool (beforeT (TlD.tl (TlD.mk i o)) j z))] 0 47)) [] [(100000, OBlk.cells 121 [.dat ha, .dat hb, .dat hc, .dat i, .dat o]), (100001, OBlk.cells 4 [.lb false]),
 (100002, OBlk.cells 87 [.vec 100005]), (100003, OBlk.cells 22 [.dat a]), (100004, OBlk.cells 121 [.dat ha, .dat hb, .dat hc, .dat i, .dat o]), (100005, OBlk.arr 4 q), (200005, OBlk.cells 22 [.dat a]),
 (200006, OBlk.cells 121 [.dat ha, .dat hb, .dat hc, .dat i, .dat o])])) z1)) z1))) (.leaf (Conf.mk (SFrm.mk 70 none none [] (mkJ 0 [(2, .ptr 100000 0), (4, .ptr 100001 0), (5, .ptr 100002 0), (7, .int .i64 z),
 (30, .int .i64 (↑(D.len hb) : Int)), (31, .int .i64 j), (32, .bool (decide (j < (↑(D.len hb) : Int))))] 0 47)) [] [(100000, OBlk.cells 121 [.dat ha, .dat hb, .dat hc, .dat i, .dat o]), (100001, OBlk.cells 4 [.lb false]),
 (100002, OBlk.cells 87 [.vec 100005]), (100003, OBlk.cells 22 [.dat a]), (100004, OBlk.cells 121 [.dat ha, .dat hb, .dat hc, .dat i, .dat o]), (100005, OBlk.arr 4 q), (200005, OBlk.cells 22 [.dat a]),
 (200006, OBlk.cells 121 [.dat ha, .dat hb, .dat hc, .dat i, .dat o])])) := by
 intros; kernel_rfl

theorem clF1 : cAt Try.prog 70 [1, 1, 0, 1, 0] = .rangeFunc (.tmp 16) #[17, 18] (cAt Try.prog 70 [1, 1, 0, 1, 0, 0]) (cAt Try.prog 70 [1, 1, 0, 1, 0, 1]) := by kernel_rfl
theorem clF2 : cAt Try.prog 70 [1, 1, 1, 0, 1, 0] = .rangeFunc (.tmp 24) #[25, 26] (cAt Try.prog 70 [1, 1, 1, 0, 1, 0, 0]) (cAt Try.prog 70 [1, 1, 1, 0, 1, 0, 1]) := by kernel_rfl
end
end Go.Proofs.Ytodhhmjilnfecaa
end
section
open Go Go.Proofs Sx
namespace Go.Proofs.Ytodhhmjilnfecaa
set_option maxRecDepth 100000

theorem ctBOk : Ctrs.Ok Try.prog ctB := by
  intro x hx
  simp only [ctB, List.mem_cons, List.not_mem_nil, or_false] at hx
  rcases hx with rfl
  exact ctrOf_ok lawBefT

section
variable {H : HV} {w : World} {ha hb hc i o a : D} (rw' : hb.Is Wt) (ri : i.Is Int) (ro : o.Is Int) (ra : a.Is Int) (lw : hb.len ≤ 1048576) (la : a.len ≤ 1048576)
  (li : (i.to Int).length = (hb.to Wt).length) (lo : (o.to Int).length = (hb.to Wt).length) (hset : setH (a.to Int) (hb.to Wt).length = true)
include rw' ri ro ra lw la li lo hset

theorem cl_in_set : ∀ j, j < a.len → 0 ≤ a.getInt (Int.toNat (j : Int)) 0 ∧ a.getInt (Int.toNat (j : Int)) 0 < (hb.len : Int) := fun j hj => by
  have hj' : j < (a.to Int).length := by rw [← D.Is.length (α := Int)]; exact hj
  have := setH_in hset hj'
  rw [(int_at ra hj').2.2, D.Is.length (α := Wt) hb]
  exact this
theorem cm_inner {C1 : Ctx} (hrd : C1.x.rd = true) {q : D} (hq : q.Is Bool) (hqs : q.sz = 1 ∨ q.len = 0) (hqt : q.to Bool = inL (hb.to Wt).length (a.to Int)) {j : Nat} (hj : j < (a.to Int).length)
    {Φ : Bool → List SV → Mem → Prop} (h1 : rowOk ⟨i.to Int, o.to Int⟩ (hb.to Wt).length (a.to Int) (a.to Int)[j] = true → ∀ T, ∀ m, (cmM ha hb hc i o a q).Perm m → Φ true T m)
    (h2 : rowOk ⟨i.to Int, o.to Int⟩ (hb.to Wt).length (a.to Int) (a.to Int)[j] = false → ∀ T, ∀ m, (cmM ha hb hc i o a q).Perm m → Φ false T m) :
    Runs Try.prog C1 (cmL ha hb hc i o a q (a.to Int)[j] 0) (EndR C1 Φ) := by
  have bl := D.Is.length (α := Wt) hb
  have ql := D.Is.length (α := Bool) q
  rw [hqt, inL_len] at ql
  have hz := setH_in hset hj
  have hperm : (cmM ha hb hc i o a q).Perm [(100000, OBlk.cells 121 [SV.dat ha, SV.dat hb, SV.dat hc, SV.dat i, SV.dat o]), (100001, OBlk.cells 4 [SV.lb false]), (100002, OBlk.cells 87 [SV.vec 100005]), (100003, OBlk.cells 22 [SV.dat a]), (100004, OBlk.cells 121 [SV.dat ha, SV.dat hb, SV.dat hc, SV.dat i, SV.dat o]), (100005, OBlk.arr 4 q), (200005, OBlk.cells 22 [SV.dat a]), (200006, OBlk.cells 121 [SV.dat ha, SV.dat hb, SV.dat hc, SV.dat i, SV.dat o])] :=
    List.perm_append_comm (l₁ := [(200005, OBlk.cells 22 [SV.dat a]), (200006, OBlk.cells 121 [SV.dat ha, SV.dat hb, SV.dat hc, SV.dat i, SV.dat o])])
  refine runs_loop (fun k : Nat => cmL ha hb hc i o a q (a.to Int)[j] k) (fun k => k ≤ (hb.to Wt).length ∧ ∀ x : Nat, x < k → ((a.to Int).contains (x : Int) || !beforeT ⟨i.to Int, o.to Int⟩ x (a.to Int)[j]) = true) (fun k => (hb.to Wt).length - k) (fun _ => rfl) ?_ 0 ⟨Nat.zero_le _, fun x hx => absurd hx (Nat.not_lt_zero _)⟩
  intro k ⟨hk, hpre⟩ ih
  apply execP_sound ctBOk 300
  rw [cml_go]
  refine ⟨fun hck => ?_, fun hck => ?_⟩
  · have hck : k < (hb.to Wt).length := by have := of_decide_eq_true hck; omega
    have hkq : k < (q.to Bool).length := by rw [hqt, inL_len]; exact hck
    obtain ⟨b1, b2⟩ := bool_cell hq hkq
    have hqv : (q.to Bool)[k] = (a.to Int).contains (k : Int) := by simp only [hqt]; exact inL_get _
    rw [hqv] at b1
    have hsz := hq.size hkq
    have hsz1 : q.sz = 1 := hsz
    have gb : q.getBool (Int.toNat (k : Int)) 0 = (a.to Int).contains (k : Int) := b1
    have nxt : ((a.to Int).contains (k : Int) || !beforeT ⟨i.to Int, o.to Int⟩ k (a.to Int)[j]) = true → Runs Try.prog C1 (cmL ha hb hc i o a q (a.to Int)[j] (IntKind.i64.wrap ((k : Int) + 1))) (EndR C1 Φ) := fun h => by
      have := ih (k + 1) ⟨hck, fun x hx => by
        by_cases e : x = k
        · subst e; exact h
        · exact hpre x (by omega)⟩ (by omega)
      rw [← wrap_succ hck (by omega)] at this
      exact this
    rw [gb]
    refine ⟨⟨by omega, by omega, hsz1⟩, ⟨b2, hsz1⟩, fun hn => ⟨⟨ri, ro, by omega, by omega, hz.1, by omega⟩, fun hbf => ?_, fun hbf => ?_⟩, fun hn => ?_⟩
    · have hn : (a.to Int).contains (k : Int) = false := by simpa using hn
      have hbf : beforeT ⟨i.to Int, o.to Int⟩ k (a.to Int)[j] = true := hbf
      refine end_ret hrd (h2 ?_ _ _ hperm)
      unfold rowOk
      rw [List.all_eq_false]
      exact ⟨k, List.mem_range.2 hck, by simp only [hn, hbf]; decide⟩
    · have hbf : beforeT ⟨i.to Int, o.to Int⟩ k (a.to Int)[j] = false := hbf
      exact nxt (by rw [hbf]; simp)
    · have hn : (a.to Int).contains (k : Int) = true := by simpa using hn
      exact nxt (by rw [hn]; simp)
  · have : k = (hb.to Wt).length := by have := of_decide_eq_false hck; omega
    subst this
    refine end_here hrd (h1 ?_ _ _ hperm)
    unfold rowOk
    rw [List.all_eq_true]
    exact fun x hx => hpre x (List.mem_range.1 hx)
theorem cm_runs {Dm : Nat} {q : D} (hq : q.Is Bool) (hqs : q.sz = 1 ∨ q.len = 0) (hqt : q.to Bool = inL (hb.to Wt).length (a.to Int)) :
    Runs Try.prog ((⟨w, H⟩ : Ctx).marked Dm) ⟨⟨70, none, none, clK, clT a⟩, [], clM ha hb hc i o a q⟩ (RetS w H (.bool (closedT ⟨i.to Int, o.to Int⟩ (hb.to Wt).length (a.to Int)))) := by
  have al := D.Is.length (α := Int) a
  apply execQ_sound ctBOk 300
  rw [clq_in]
  refine pin_to 200000 ⟨⟨70, none, none, Item.code (cAt Try.prog 70 [1, 1, 1, 0, 1, 0]) :: cmK, cmT ha hb hc i o a⟩, [], (200005, OBlk.cells 22 [SV.dat a]) :: (200006, OBlk.cells 121 [SV.dat ha, SV.dat hb, SV.dat hc, SV.dat i, SV.dat o]) :: [(100000, OBlk.cells 121 [SV.dat ha, SV.dat hb, SV.dat hc, SV.dat i, SV.dat o]), (100001, OBlk.cells 4 [SV.lb false]), (100002, OBlk.cells 87 [SV.vec 100005]), (100003, OBlk.cells 22 [SV.dat a]), (100004, OBlk.cells 121 [SV.dat ha, SV.dat hb, SV.dat hc, SV.dat i, SV.dat o]), (100005, OBlk.arr 4 q)]⟩ (by kernel_rfl) ?_ rfl
  rw [clF2]
  refine runs_range icode (mm := fun _ : Unit => cmM ha hb hc i o a q) (Inv := fun j _ => ∀ k, (hk : k < (a.to Int).length) → k < j → rowOk ⟨i.to Int, o.to Int⟩ (hb.to Wt).length (a.to Int) (a.to Int)[k] = true) (Stop := fun _ => closedT ⟨i.to Int, o.to Int⟩ (hb.to Wt).length (a.to Int) = false)
    (c2W (fun _ : Unit => [(100000, OBlk.cells 121 [SV.dat ha, SV.dat hb, SV.dat hc, SV.dat i, SV.dat o]), (100001, OBlk.cells 4 [SV.lb false]), (100002, OBlk.cells 87 [SV.vec 100005]), (100003, OBlk.cells 22 [SV.dat a]), (100004, OBlk.cells 121 [SV.dat ha, SV.dat hb, SV.dat hc, SV.dat i, SV.dat o]), (100005, OBlk.arr 4 q)]) _ ra rw' la (cl_in_set rw' ri ro ra lw la li lo hset))
    () (fun k _ h => absurd h (Nat.not_lt_zero _)) rfl rfl rfl rfl rfl rfl (fun _ => rfl) (fun j => (cmR ha hb hc i o a (a.getInt (Int.toNat (j : Int)) 0)).set 7 (.int .i64 (a.getInt (Int.toNat (j : Int)) 0))) (fun _ _ => cmM ha hb hc i o a q) ?_ ?_ ?_ ?_
  · intro C1 s j hrd hj hi
    apply execP_sound (noCtr _) 100
    refine holds_of (cma_go ha hb hc i o a q (a.getInt (Int.toNat (j : Int)) 0)) ?_
    exact end_here hrd ⟨rfl, rfl, rfl⟩
  · intro C1 s j hrd hj hi
    have hj' : j < (a.to Int).length := by omega
    have hz := (int_at ra hj').2.2
    apply execP_sound ctBOk 100
    rw [cmb_go]
    rw [hz]
    refine cm_inner rw' ri ro ra lw la li lo hset hrd hq hqs hqt hj' (fun h T m hp => ⟨fun _ => ⟨(), MemTo.perm hp, fun k hk hkj => ?_⟩, (fun h => by cases h)⟩) (fun h T m hp => ⟨(fun h => by cases h), fun _ => ⟨(), MemTo.perm hp, ?_⟩⟩)
    · by_cases e : k = j
      · subst e; exact h
      · exact hi k hk (by omega)
    · show closedT _ _ _ = false
      unfold closedT
      rw [List.all_eq_false]
      exact ⟨_, List.getElem_mem hj', by rw [h]; decide⟩
  · intro D2 s hi
    apply execQ_sound ctBOk 300
    rw [cme_in]
    refine ret_marked (ret_marked (ret_lb (.symm ?_)))
    unfold closedT
    rw [List.all_eq_true]
    intro b hb'
    obtain ⟨k, hk, rfl⟩ := List.getElem_of_mem hb'
    exact hi k hk (by omega)
  · intro D2 s hs
    apply execQ_sound ctBOk 300
    rw [cms_in]
    exact ret_marked (ret_marked (ret_lb (.symm hs)))
end

theorem lawIsCl : Law Try.prog 70 ((rdCk.two rdD).sp spIsCl) := by
  refine law_in _ (by kernel_rfl) fun H w ⟨⟨ha, hb, hc, i, o⟩, a⟩ hok hp => ?_
  obtain ⟨rw', ri, ro, ra, lw, la, li, lo, hset⟩ := hp _ (List.mem_singleton.2 rfl)
  simp only at rw' ri ro ra lw la li lo hset
  have al := D.Is.length (α := Int) a
  have bl := D.Is.length (α := Wt) hb
  apply execQ_sound ctBOk 300
  rw [show (rdCk.two rdD).canon (⟨ha, hb, hc, i, o⟩, a) = [.agg [.dat ha, .dat hb, .dat hc, .dat i, .dat o], .dat a] from rfl, icl_in]
  refine ⟨⟨by omega, rfl, by omega, by omega⟩, fun hs => ?_⟩
  refine pin_to 100000 ⟨⟨70, none, none, Item.code (cAt Try.prog 70 [1, 1, 0, 1, 0]) :: clK, clT a⟩, [], [(100000, OBlk.cells 121 [SV.dat ha, SV.dat hb, SV.dat hc, SV.dat i, SV.dat o]), (100001, OBlk.cells 4 [SV.lb false]), (100002, OBlk.cells 87 [SV.vec 100005]), (100003, OBlk.cells 22 [SV.dat a]), (100004, OBlk.cells 121 [SV.dat ha, SV.dat hb, SV.dat hc, SV.dat i, SV.dat o]), (100005, OBlk.arr 4 (D.slc (D.hd (hs 0 0)) 1 (List.replicate (Int.toNat (D.len hb : Int)) [D.bool false])))]⟩ (by kernel_rfl) ?_ rfl
  have hq0 : (D.slc (D.hd (hs 0 0)) 1 (List.replicate (Int.toNat (D.len hb : Int)) [D.bool false])).Is Bool ∧ (D.slc (D.hd (hs 0 0)) 1 (List.replicate (Int.toNat (D.len hb : Int)) [D.bool false])).to Bool = List.replicate (hb.to Wt).length false :=
    is_of rfl ⟨fun r hr => by rw [List.eq_of_mem_replicate hr]; exact ok_bool false, by simp [bl]⟩
  generalize D.slc (D.hd (hs 0 0)) 1 (List.replicate (Int.toNat (D.len hb : Int)) [D.bool false]) = q0 at hq0
  refine runs_perm (clM ha hb hc i o a q0) ?_ ?_
  · exact (perm_front [(100000, OBlk.cells 121 [SV.dat ha, SV.dat hb, SV.dat hc, SV.dat i, SV.dat o]), (100001, OBlk.cells 4 [SV.lb false]), (100002, OBlk.cells 87 [SV.vec 100005])] [(100003, OBlk.cells 22 [SV.dat a]), (100004, OBlk.cells 121 [SV.dat ha, SV.dat hb, SV.dat hc, SV.dat i, SV.dat o])] [(100005, OBlk.arr 4 q0)])
  rw [clF1]
  refine runs_range icode (mm := fun q : D => clM ha hb hc i o a q) (Inv := fun j q => q.Is Bool ∧ q.to Bool = inL (hb.to Wt).length ((a.to Int).take j)) (Stop := fun _ => False)
    (c1W (fun q : D => [(100000, OBlk.cells 121 [SV.dat ha, SV.dat hb, SV.dat hc, SV.dat i, SV.dat o]), (100001, OBlk.cells 4 [SV.lb false]), (100002, OBlk.cells 87 [SV.vec 100005]), (100005, OBlk.arr 4 q)]) _ ra rw' la (cl_in_set rw' ri ro ra lw la li lo hset))
    q0 ⟨hq0.1, by rw [hq0.2, List.take_zero, inL_nil]⟩ rfl rfl rfl rfl rfl rfl (fun _ => rfl) (fun j => (clR hb a (a.getInt (Int.toNat (j : Int)) 0)).set 6 (.int .i64 (a.getInt (Int.toNat (j : Int)) 0))) (fun _ q => clM ha hb hc i o a q) ?_ ?_ ?_ ?_
  · intro C1 q j hrd hj hi
    apply execP_sound (noCtr _) 100
    refine holds_of (cla_go ha hb hc i o a q (a.getInt (Int.toNat (j : Int)) 0)) ?_
    exact end_here hrd ⟨rfl, rfl, rfl⟩
  · intro C1 q j hrd hj ⟨hq, hqt⟩
    have hj' : j < (a.to Int).length := by omega
    have hz := (int_at ra hj').2.2
    have hzr := setH_in hset hj'
    apply execP_sound (noCtr _) 100
    rw [clb_go]
    rw [hz]
    obtain ⟨z, hzz⟩ := Int.eq_ofNat_of_zero_le hzr.1
    have ql := D.Is.length (α := Bool) q
    rw [hqt, inL_len] at ql
    have hzq : z < (q.to Bool).length := by rw [hqt, inL_len]; omega
    have hsz : q.sz = 1 := hq.size hzq
    obtain ⟨s1, s2⟩ := set_full hq hzq (xs := [D.bool true]) rfl (ok_bool true) rfl
    rw [hzz]
    refine ⟨⟨by omega, by omega, hsz⟩, ⟨by simp only [Int.toNat_natCast]; omega, by omega, hsz⟩, end_here hrd ⟨fun _ => ⟨_, MemTo.refl _, s1, ?_⟩, fun h => by cases h⟩⟩
    refine s2.trans ?_
    rw [hqt, List.take_succ_eq_append_getElem hj', hzz, inL_snoc]
    rfl
  · intro D2 q ⟨hq, hqt⟩
    refine cm_runs rw' ri ro ra lw la li lo hset hq ?_ (by rw [hqt, al, List.take_length])
    rcases Nat.eq_zero_or_pos q.len with h | h
    · exact .inr h
    · exact .inl (hq.size (i := 0) (by rw [← D.Is.length (α := Bool)]; exact h))
  · exact fun _ _ h => h.elim
end Go.Proofs.Ytodhhmjilnfecaa
end
section
open Go Go.Proofs Sx
namespace Go.Proofs.Ytodhhmjilnfecaa
set_option maxRecDepth 100000
set_option maxHeartbeats 0
noncomputable def ctN : Ctrs := [(68, ctrOf (rdHi.one.sp spCk)), (69, ctrOf ((rdCk.two rdD).sp spIsSet)), (70, ctrOf ((rdCk.two rdD).sp spIsCl)), (96, ctrOf ((rdTl.three rdInt rdInt).sp spBefT))]
noncomputable def ctNR : Ctrs := [(65, ctrOf (rdHi.one.sp spCkI)), (86, ctrOf ((rdD.two rdEv).sp spAt)), (85, ctrOf (rdInt.one.sp spIssE)), (87, ctrOf (rdInt.one.sp spAckE)), (47, ctrOf ((rdD.two rdInt).sp spHas)), (66, ctrOf ((rdD.two rdInt).sp spSet))]
section
variable (n j k : Int) (ha hb hc a : D)
theorem cls_in : exec Try.prog ctN 300 (entry Try.prog 33 [.agg [.dat ha, .dat hb, .dat hc], .dat a]) =
 Tree.need (HiD.Right (HiD.mk ha hb hc))
 (.all fun hs =>
 .br (decide (Prod.fst (checkH (HiD.hist (HiD.mk ha hb hc))) = 0))
 (.need (D.Is Int a ∧ D.len a ≤ 1048576 ∧ D.Is Wt (onOk (Prod.fst (checkH (HiD.hist (HiD.mk ha hb hc)))) hb))
 (.br
 (setH (D.to Int a)
 (↑(List.length (D.to Wt (onOk (Prod.fst (checkH (HiD.hist (HiD.mk ha hb hc)))) hb))) : Int))
 (.need
 (D.Is Wt (onOk (Prod.fst (checkH (HiD.hist (HiD.mk ha hb hc)))) hb) ∧
 D.Is Int (D.like (hs 0 0) (Tl.issued (Prod.snd (checkH (HiD.hist (HiD.mk ha hb hc)))))) ∧
 D.Is Int (D.like (hs 0 1) (Tl.acked (Prod.snd (checkH (HiD.hist (HiD.mk ha hb hc)))))) ∧
 D.Is Int a ∧
 D.len (onOk (Prod.fst (checkH (HiD.hist (HiD.mk ha hb hc)))) hb) ≤ 1048576 ∧
 D.len a ≤ 1048576 ∧
 List.length
 (D.to Int
 (D.like (hs 0 0) (Tl.issued (Prod.snd (checkH (HiD.hist (HiD.mk ha hb hc))))))) =
 List.length (D.to Wt (onOk (Prod.fst (checkH (HiD.hist (HiD.mk ha hb hc)))) hb)) ∧
 List.length
 (D.to Int
 (D.like (hs 0 1) (Tl.acked (Prod.snd (checkH (HiD.hist (HiD.mk ha hb hc))))))) =
 List.length (D.to Wt (onOk (Prod.fst (checkH (HiD.hist (HiD.mk ha hb hc)))) hb)) ∧
 setH (D.to Int a)
 (↑(List.length (D.to Wt (onOk (Prod.fst (checkH (HiD.hist (HiD.mk ha hb hc)))) hb))) :
 Int) =
 true)
 (.ret
 (.bool
 (closedT
 (Tl.mk (D.to Int (D.like (hs 0 0) (Tl.issued (Prod.snd (checkH (HiD.hist (HiD.mk ha hb hc)))))))
 (D.to Int (D.like (hs 0 1) (Tl.acked (Prod.snd (checkH (HiD.hist (HiD.mk ha hb hc))))))))
 (List.length (D.to Wt (onOk (Prod.fst (checkH (HiD.hist (HiD.mk ha hb hc)))) hb))) (D.to Int a)))))
 (.ret (.lb false))))
 (.ret (.lb false))) := by kernel_rfl

theorem rbf_in : exec Try.prog ctNR 300 (entry Try.prog 108 [.agg [.dat ha, .dat hb, .dat hc], .int .i64 n, .int .i64 k]) =
 Tree.all fun hs =>
 .need (D.Is Ev hc ∧ D.len hc ≤ 1048576)
 (.need (D.Is Ev hc ∧ D.len hc ≤ 1048576)
 (.br (decide (atEv (D.to Ev hc) (EvD.ev (EvD.mk 1 n)) ≥ 0))
 (.ret
 (.bool (decide (atEv (D.to Ev hc) (EvD.ev (EvD.mk 1 n)) < atEv (D.to Ev hc) (EvD.ev (EvD.mk 0 k))))))
 (.ret (.lb false)))) := by kernel_rfl

theorem rcl_in : exec Try.prog ctNR 300 (entry Try.prog 92 [.agg [.dat ha, .dat hb, .dat hc], .dat a]) =
 Tree.leaf
 (Conf.mk
 (SFrm.mk 92 none none
 [Item.inLoop (cAt Try.prog 92 [1, 0, 1, 0, 0]), Item.inBlock 0, Item.code (cAt Try.prog 92 [1, 1])]
 (mkJ 0 [(1, .dat a), (2, .ptr 0 0), (5, .int .i64 0)] 0 33))
 [] [(0, OBlk.cells 26 [.dat ha, .dat hb, .dat hc])]) := by kernel_rfl

theorem fst_in : exec Try.prog ctNR 300 (entry Try.prog 34 [.int .i64 n]) =
 Tree.leaf
 (Conf.mk
 (SFrm.mk 34 none none
 [Item.inLoop (cAt Try.prog 34 [1, 1, 0, 1, 0, 0]), Item.inBlock 0, Item.code (cAt Try.prog 34 [1, 1, 1])]
 (mkJ 0 [(0, .int .i64 n), (3, .nils), (4, .int .i64 0)] 0 15))
 [] []) := by kernel_rfl

end
end Go.Proofs.Ytodhhmjilnfecaa
end
section
open Go Go.Proofs Sx
namespace Go.Proofs.Ytodhhmjilnfecaa
set_option maxRecDepth 100000
set_option maxHeartbeats 0
noncomputable def fstL (q : D) (n j : Int) : Conf := Conf.mk (SFrm.mk 34 none none [Item.inLoop (cAt Try.prog 34 [1, 1, 0, 1, 0, 0]), Item.inBlock 0, Item.code (cAt Try.prog 34 [1, 1, 1])] (mkJ 0 [(0, .int .i64 n), (3, .vec 0), (4, .int .i64 j)] 0 15)) [] [(0, .arr 3 q)]
noncomputable def rclL (ha hb hc a : D) (j : Int) : Conf := Conf.mk (SFrm.mk 92 none none [Item.inLoop (cAt Try.prog 92 [1, 0, 1, 0, 0]), Item.inBlock 0, Item.code (cAt Try.prog 92 [1, 1])] (mkJ 0 [(1, .dat a), (2, .ptr 0 0), (5, .int .i64 j)] 0 33)) [] [(0, OBlk.cells 26 [.dat ha, .dat hb, .dat hc])]
noncomputable def ctNS : Ctrs := (108, ctrOf ((rdHi.three rdInt rdInt).sp spBefR)) :: ctNR
section
variable (n j k m : Int) (ha hb hc a t q : D)
theorem fstL_go : exec Try.prog [] 300 (unroll (fstL q n j)) =
 Tree.br (decide (j < n))
 (.all fun hs =>
 .need
 (D.sz q = 1 ∧
 D.Fits (D.slc (D.hd (hs 0 0)) 1 [[D.int .i64 j]]) 1 ∧
 (D.len q + D.len (D.slc (D.hd (hs 0 0)) 1 [[D.int .i64 j]])) * 8 ≤ 140737488355328 ∧
 D.len q + D.len (D.slc (D.hd (hs 0 0)) 1 [[D.int .i64 j]]) ≤ 9223372036854775807)
 (.all fun hs_1 =>
 .leaf
 (Conf.mk
 (SFrm.mk 34 none none
 [Item.inLoop (cAt Try.prog 34 [1, 1, 0, 1, 0, 0]), Item.inBlock 0, Item.code (cAt Try.prog 34 [1, 1, 1])]
 (mkJ 0
 [(0, .int .i64 n), (3, .vec 0), (4, .int .i64 (IntKind.wrap .i64 (j + 1)))] 0
 15))
 []
 [(0,
 OBlk.arr 3
 (D.slc (D.hd (hs_1 0 0)) 1
 (List.append (D.rows q) (D.rows (D.slc (D.hd (hs 0 0)) 1 [[D.int .i64 j]])))))])))
 (.ret (.dat q)) := by kernel_rfl

theorem rclL_go : exec Try.prog ctNS 300 (unroll (rclL ha hb hc a j)) =
 Tree.br (decide (j < (↑(D.len a) : Int)))
 (.leaf
 (Conf.mk
 (SFrm.mk 92 none none
 [Item.inLoop (cAt Try.prog 92 [1, 0, 1, 0, 0, 1, 0, 0, 1, 0, 0]), Item.inBlock 2, Item.inBlock 1,
 Item.code (cAt Try.prog 92 [1, 0, 1, 0, 0, 1, 1]), Item.inLoop (cAt Try.prog 92 [1, 0, 1, 0, 0]),
 Item.inBlock 0, Item.code (cAt Try.prog 92 [1, 1])]
 (mkJ 0 [(1, .dat a), (2, .ptr 0 0), (5, .int .i64 j), (6, .int .i64 0)] 0 33))
 [] [(0, OBlk.cells 26 [.dat ha, .dat hb, .dat hc])]))
 (.ret (.lb true)) := by kernel_rfl

end
end Go.Proofs.Ytodhhmjilnfecaa
end
section
open Go Go.Proofs Sx
namespace Go.Proofs.Ytodhhmjilnfecaa
set_option maxRecDepth 100000
set_option maxHeartbeats 0
noncomputable def rcl2L (ha hb hc a : D) (j k : Int) : Conf := Conf.mk (SFrm.mk 92 none none [Item.inLoop (cAt Try.prog 92 [1, 0, 1, 0, 0, 1, 0, 0, 1, 0, 0]), Item.inBlock 2, Item.inBlock 1, Item.code (cAt Try.prog 92 [1, 0, 1, 0, 0, 1, 1]), Item.inLoop (cAt Try.prog 92 [1, 0, 1, 0, 0]), Item.inBlock 0, Item.code (cAt Try.prog 92 [1, 1])] (mkJ 0 [(1, .dat a), (2, .ptr 0 0), (5, .int .i64 j), (6, .int .i64 k)] 0 33)) [] [(0, OBlk.cells 26 [.dat ha, .dat hb, .dat hc])]
noncomputable def ixiL (d : D) (n : Int) (j : Int) : Conf := Conf.mk (SFrm.mk 44 none none [Item.inLoop (cAt Try.prog 44 [1, 0, 1, 0, 0]), Item.inBlock 0, Item.code (cAt Try.prog 44 [1, 1])] (mkJ 0 [(0, .dat d), (1, .int .i64 n), (7, .int .i64 d.len), (8, .int .i64 j)] 0 19)) [] []
noncomputable def ctRs : Ctrs := (83, ctrOf (rdHi.one.sp spCopy)) :: (44, ctrOf ((rdD.two rdInt).sp spIxI)) :: ctN
noncomputable def ctRR : Ctrs := (48, ctrOf (rdHi.one.sp spCopy)) :: (92, ctrOf ((rdHi.two rdD).sp spClR)) :: ctNR
section
variable (n j k m : Int) (ha hb hc a d t q : D)
theorem rcl2L_go : exec Try.prog ctNS 300 (unroll (rcl2L ha hb hc a j k)) =
 Tree.br (decide (k < (↑(D.len hb) : Int)))
 (.all fun hs =>
 .br (beforeR (D.to Ev hc) k (D.getInt a (Int.toNat j) 0))
 (.need (0 ≤ j ∧ j < (↑(D.len a) : Int) ∧ D.sz a = 1)
 (.need (D.HasCell a (Int.toNat j) 0 (FT.int .i64))
 (.need (D.Is Ev hc ∧ D.len hc ≤ 1048576)
 (.need (beforeR (D.to Ev hc) k (D.getInt a (Int.toNat j) 0) = true)
 (.need (beforeR (D.to Ev hc) k (D.getInt a (Int.toNat j) 0) = true)
 (.need (beforeR (D.to Ev hc) k (D.getInt a (Int.toNat j) 0) = true)
 (.need (D.Is Int a ∧ D.len a ≤ 1048576)
 (.need (beforeR (D.to Ev hc) k (D.getInt a (Int.toNat j) 0) = true)
 (.need (beforeR (D.to Ev hc) k (D.getInt a (Int.toNat j) 0) = true)
 (.br (!List.contains (D.to Int a) k) (.ret (.lb false))
 (.leaf
 (Conf.mk
 (SFrm.mk 92 none none
 [Item.inLoop (cAt Try.prog 92 [1, 0, 1, 0, 0, 1, 0, 0, 1, 0, 0]), Item.inBlock 2,
 Item.inBlock 1, Item.code (cAt Try.prog 92 [1, 0, 1, 0, 0, 1, 1]),
 Item.inLoop (cAt Try.prog 92 [1, 0, 1, 0, 0]), Item.inBlock 0,
 Item.code (cAt Try.prog 92 [1, 1])]
 (mkJ 0
 [(1, .dat a), (2, .ptr 0 0), (5, .int .i64 j),
 (6, .int .i64 (IntKind.wrap .i64 (k + 1)))]
 0 33))
 [] [(0, OBlk.cells 26 [.dat ha, .dat hb, .dat hc])]))))))))))))
 (.need (0 ≤ j ∧ j < (↑(D.len a) : Int) ∧ D.sz a = 1)
 (.need (D.HasCell a (Int.toNat j) 0 (FT.int .i64))
 (.need (D.Is Ev hc ∧ D.len hc ≤ 1048576)
 (.need (beforeR (D.to Ev hc) k (D.getInt a (Int.toNat j) 0) = false)
 (.need (beforeR (D.to Ev hc) k (D.getInt a (Int.toNat j) 0) = false)
 (.need (beforeR (D.to Ev hc) k (D.getInt a (Int.toNat j) 0) = false)
 (.need (beforeR (D.to Ev hc) k (D.getInt a (Int.toNat j) 0) = false)
 (.need (beforeR (D.to Ev hc) k (D.getInt a (Int.toNat j) 0) = false)
 (.leaf
 (Conf.mk
 (SFrm.mk 92 none none
 [Item.inLoop (cAt Try.prog 92 [1, 0, 1, 0, 0, 1, 0, 0, 1, 0, 0]), Item.inBlock 2,
 Item.inBlock 1, Item.code (cAt Try.prog 92 [1, 0, 1, 0, 0, 1, 1]),
 Item.inLoop (cAt Try.prog 92 [1, 0, 1, 0, 0]), Item.inBlock 0,
 Item.code (cAt Try.prog 92 [1, 1])]
 (mkJ 0
 [(1, .dat a), (2, .ptr 0 0), (5, .int .i64 j),
 (6, .int .i64 (IntKind.wrap .i64 (k + 1)))]
 0 33))
 [] [(0, OBlk.cells 26 [.dat ha, .dat hb, .dat hc])])))))))))))
 (.leaf
 (Conf.mk
 (SFrm.mk 92 none none
 [Item.inLoop (cAt Try.prog 92 [1, 0, 1, 0, 0]), Item.inBlock 0, Item.code (cAt Try.prog 92 [1, 1])]
 (mkJ 0 [(1, .dat a), (2, .ptr 0 0), (5, .int .i64 (IntKind.wrap .i64 (j + 1)))] 0 33))
 [] [(0, OBlk.cells 26 [.dat ha, .dat hb, .dat hc])])) := by kernel_rfl

theorem ixi_in : exec Try.prog [] 300 (entry Try.prog 44 [.dat d, .int .i64 n]) =
 Tree.leaf
 (Conf.mk
 (SFrm.mk 44 none none
 [Item.inLoop (cAt Try.prog 44 [1, 0, 1, 0, 0]), Item.inBlock 0, Item.code (cAt Try.prog 44 [1, 1])]
 (mkJ 0
 [(0, .dat d), (1, .int .i64 n), (7, .int .i64 (↑(D.len d) : Int)),
 (8, .int .i64 0)]
 0 19))
 [] []) := by kernel_rfl

theorem ixiL_go : exec Try.prog [] 300 (unroll (ixiL d n j)) =
 Tree.br (decide (j < (↑(D.len d) : Int)))
 (.need (0 ≤ j ∧ j < (↑(D.len d) : Int) ∧ D.sz d = 1)
 (.need (D.HasCell d (Int.toNat j) 0 (FT.int .i64))
 (.br (decide (n = D.getInt d (Int.toNat j) 0)) (.ret (.int .i64 j))
 (.leaf
 (Conf.mk
 (SFrm.mk 44 none none
 [Item.inLoop (cAt Try.prog 44 [1, 0, 1, 0, 0]), Item.inBlock 0, Item.code (cAt Try.prog 44 [1, 1])]
 (mkJ 0
 [(0, .dat d), (1, .int .i64 n), (7, .int .i64 (↑(D.len d) : Int)),
 (8, .int .i64 (IntKind.wrap .i64 (j + 1)))]
 0 19))
 [] [])))))
 (.ret (.int .i64 (Int.neg 1))) := by kernel_rfl

theorem rstR_in : exec Try.prog ctRR 400 (entry Try.prog 59 [.agg [.dat ha, .dat hb, .dat hc], .dat a]) =
 Tree.need (HiD.Right (HiD.mk ha hb hc))
 (.br (Prod.fst (checkH (HiD.hist (HiD.mk ha hb hc))) != 0)
 (.ret
 (SV.tup
 [.agg [.nils, .nils, .nils], .int .i64 (Prod.fst (checkH (HiD.hist (HiD.mk ha hb hc))))]))
 (.need (D.Is Int a ∧ D.len a ≤ 1048576)
 (.br (!setH (D.to Int a) (↑(D.len hb) : Int))
 (.ret (SV.tup [.agg [.nils, .nils, .nils], .int .i64 2]))
 (.need (D.Is Ev hc ∧ D.len hc ≤ 1048576 ∧ D.Is Wt hb ∧ D.len hb ≤ 1048576 ∧ D.Is Int a ∧ D.len a ≤ 1048576)
 (.br (!closedS (D.to Ev hc) (List.length (D.to Wt hb)) (D.to Int a))
 (.ret (SV.tup [.agg [.nils, .nils, .nils], .int .i64 27]))
 (.leaf
 (Conf.mk
 (SFrm.mk 59 none none
 [Item.inLoop (cAt Try.prog 59 [1, 1, 1, 1, 1, 0, 1, 0, 0]), Item.inBlock 0,
 Item.code (cAt Try.prog 59 [1, 1, 1, 1, 1, 1])]
 (mkJ 0 [(1, .dat a), (2, .ptr 0 0), (4, .ptr 1 0), (7, .ptr 2 0), (8, .int .i64 0)] 0
 90))
 []
 [(0, OBlk.cells 26 [.dat ha, .dat hb, .dat hc]), (1, OBlk.cells 26 [.nils, .nils, .nils]),
 (2, OBlk.cells 26 [.dat ha, .nils, .nils])]))))))) := by kernel_rfl

end
end Go.Proofs.Ytodhhmjilnfecaa
end
section
open Go Go.Proofs Sx
namespace Go.Proofs.Ytodhhmjilnfecaa
set_option maxRecDepth 100000

theorem ctNOk : Ctrs.Ok Try.prog ctN := by
  intro x hx
  simp only [ctN, List.mem_cons, List.not_mem_nil, or_false] at hx
  rcases hx with rfl | rfl | rfl | rfl
  · exact ctrOf_ok lawCk
  · exact ctrOf_ok lawIsSet
  · exact ctrOf_ok lawIsCl
  · exact ctrOf_ok lawBefT
theorem ctNROk : Ctrs.Ok Try.prog ctNR := by
  intro x hx
  simp only [ctNR, List.mem_cons, List.not_mem_nil, or_false] at hx
  rcases hx with rfl | rfl | rfl | rfl | rfl | rfl
  · exact ctrOf_ok lawCkR
  · exact ctrOf_ok lawAt
  · exact ctrOf_ok lawIssE
  · exact ctrOf_ok lawAckE
  · exact ctrOf_ok lawHas
  · exact ctrOf_ok lawSet

theorem lawIxI : Law Try.prog 44 ((rdD.two rdInt).sp spIxI) := by
  refine law_in _ (by kernel_rfl) fun H w ⟨d, n⟩ hok hp => ?_
  obtain ⟨hd, hlen⟩ := hp _ (List.mem_singleton.2 rfl)
  simp only at hd hlen
  have hl := D.Is.length (α := Int) d
  apply exec_sound (noCtr _) 300
  rw [show (rdD.two rdInt).canon (d, n) = [.dat d, .int .i64 n] from rfl, ixi_in]
  refine runs_loop (fun j : Nat => ixiL d n j) (fun j => j ≤ (d.to Int).length ∧ ((d.to Int).take j).findIdx? (fun y => decide (n = y)) = none) (fun j => (d.to Int).length - j) (fun _ => rfl) ?_ 0 ⟨Nat.zero_le _, by simp⟩
  intro j ⟨hj, hpre⟩ ih
  apply exec_sound (noCtr _) 300
  rw [ixiL_go]
  refine ⟨fun hc => ?_, fun hc => ret_int ?_⟩
  · have hc : j < (d.to Int).length := by have := of_decide_eq_true hc; omega
    obtain ⟨c1, c2, c3⟩ := int_at hd hc
    rw [c3]
    refine ⟨c1, c2, fun h => ret_int ?_, fun h => ?_⟩
    · exact (idxG_hit hc hpre h).symm
    · have := ih (j + 1) ⟨hc, idxG_miss hc hpre h⟩ (by omega)
      rw [← wrap_succ hc (by omega)] at this
      exact this
  · have : j = (d.to Int).length := by have := of_decide_eq_false hc; omega
    subst this
    exact (idxG_none hpre).symm

theorem lawBefR : Law Try.prog 108 ((rdHi.three rdInt rdInt).sp spBefR) := by
  refine law_in _ (by kernel_rfl) fun H w ⟨⟨ha, hb, hc⟩, n, k⟩ hok hp => ?_
  obtain ⟨rc, lc⟩ := hp _ (List.mem_singleton.2 rfl)
  simp only at rc lc
  apply exec_sound ctNROk 300
  rw [show (rdHi.three rdInt rdInt).canon (⟨ha, hb, hc⟩, n, k) = [.agg [.dat ha, .dat hb, .dat hc], .int .i64 n, .int .i64 k] from rfl, rbf_in]
  refine fun hs => ⟨⟨rc, lc⟩, ⟨rc, lc⟩, fun h => ret_bool ?_, fun h => ret_lb ?_⟩
  · have e : decide (atEv (hc.to Ev) ⟨1, n⟩ ≥ 0) = true := h
    show decide (atEv (hc.to Ev) ⟨1, n⟩ < atEv (hc.to Ev) ⟨0, k⟩) = beforeR (hc.to Ev) n k
    unfold beforeR; rw [e]; rfl
  · have e : decide (atEv (hc.to Ev) ⟨1, n⟩ ≥ 0) = false := h
    show false = beforeR (hc.to Ev) n k
    unfold beforeR; rw [e]; rfl
theorem ctNSOk : Ctrs.Ok Try.prog ctNS := by
  intro x hx
  rcases List.mem_cons.1 hx with rfl | hx
  · exact ctrOf_ok lawBefR
  · exact ctNROk x hx

theorem lawClR : Law Try.prog 92 ((rdHi.two rdD).sp spClR) := by
  refine law_in _ (by kernel_rfl) fun H w ⟨⟨ha, hb, hc⟩, a⟩ hok hp => ?_
  obtain ⟨rc, lc, rb, lb, ra, la⟩ := hp _ (List.mem_singleton.2 rfl)
  simp only at rc lc rb lb ra la
  have al := D.Is.length (α := Int) a
  have bl := D.Is.length (α := Wt) hb
  apply exec_sound ctNROk 300
  rw [show (rdHi.two rdD).canon (⟨ha, hb, hc⟩, a) = [.agg [.dat ha, .dat hb, .dat hc], .dat a] from rfl, rcl_in]
  refine runs_loop (fun j : Nat => rclL ha hb hc a j) (fun j => j ≤ (a.to Int).length ∧ ∀ x, (hx : x < (a.to Int).length) → x < j → rowOkR (hc.to Ev) (hb.to Wt).length (a.to Int) (a.to Int)[x] = true) (fun j => (a.to Int).length - j) (fun _ => rfl) ?_ 0 ⟨Nat.zero_le _, fun x _ h => absurd h (Nat.not_lt_zero _)⟩
  intro j ⟨hj, hpre⟩ ih
  apply exec_sound ctNSOk 300
  rw [rclL_go]
  refine ⟨fun hcj => ?_, fun hcj => ?_⟩
  · have hcj : j < (a.to Int).length := by have := of_decide_eq_true hcj; omega
    obtain ⟨c1, c2, c3⟩ := int_at ra hcj
    refine runs_loop (fun k : Nat => rcl2L ha hb hc a j k) (fun k => k ≤ (hb.to Wt).length ∧ ∀ x : Nat, x < k → (!beforeR (hc.to Ev) x (a.to Int)[j] || (a.to Int).contains (x : Int)) = true) (fun k => (hb.to Wt).length - k) (fun _ => rfl) ?_ 0 ⟨Nat.zero_le _, fun x h => absurd h (Nat.not_lt_zero _)⟩
    intro k ⟨hk, hpk⟩ ihk
    apply exec_sound ctNSOk 300
    rw [rcl2L_go]
    refine ⟨fun hck hs => ?_, fun hck => ?_⟩
    · have hck : k < (hb.to Wt).length := by have := of_decide_eq_true hck; omega
      have nxt : (!beforeR (hc.to Ev) k (a.to Int)[j] || (a.to Int).contains (k : Int)) = true → Runs Try.prog ⟨w, H⟩ (rcl2L ha hb hc a j (IntKind.i64.wrap ((k : Int) + 1))) (RetS w H (.bool (closedS (hc.to Ev) (hb.to Wt).length (a.to Int)))) := fun h => by
        have := ihk (k + 1) ⟨hck, fun x hx => by
          by_cases e : x = k
          · subst e; exact h
          · exact hpk x (by omega)⟩ (by omega)
        rw [← wrap_succ hck (by omega)] at this
        exact this
      rw [c3]
      refine ⟨fun hbf => ?_, fun hbf => ?_⟩
      · simp only [holds_need]
        refine ⟨c1, c2, ⟨rc, lc⟩, hbf, hbf, hbf, ⟨ra, la⟩, hbf, hbf, fun hn => ret_lb (.symm ?_), fun hn => nxt ?_⟩
        · have hn : (a.to Int).contains (k : Int) = false := by simpa using hn
          unfold closedS
          rw [List.all_eq_false]
          refine ⟨_, List.getElem_mem hcj, ?_⟩
          rw [Bool.not_eq_true]
          unfold rowOkR
          rw [List.all_eq_false]
          exact ⟨k, List.mem_range.2 hck, by rw [hbf, hn]; decide⟩
        · have hn : (a.to Int).contains (k : Int) = true := by simpa using hn
          rw [hn]; simp
      · simp only [holds_need]
        exact ⟨c1, c2, ⟨rc, lc⟩, hbf, hbf, hbf, hbf, hbf, nxt (by rw [hbf]; rfl)⟩
    · have : k = (hb.to Wt).length := by have := of_decide_eq_false hck; omega
      subst this
      have := ih (j + 1) ⟨hcj, fun x hx hxj => by
        by_cases e : x = j
        · subst e
          unfold rowOkR
          rw [List.all_eq_true]
          exact fun y hy => hpk y (List.mem_range.1 hy)
        · exact hpre x hx (by omega)⟩ (by omega)
      rw [← wrap_succ hcj (by omega)] at this
      exact this
  · have : j = (a.to Int).length := by have := of_decide_eq_false hcj; omega
    subst this
    refine ret_lb (.symm ?_)
    unfold closedS
    rw [List.all_eq_true]
    intro b hb'
    obtain ⟨x, hx, rfl⟩ := List.getElem_of_mem hb'
    exact hpre x hx hx
theorem ck_right {x : HiD} (hR : x.Right) (hc : (checkH x.hist).1 = 0) : ((checkH x.hist).2.issued.length = (x.w.to Wt).length) ∧ ((checkH x.hist).2.acked.length = (x.w.to Wt).length) := by
  obtain ⟨htl, hlen, _⟩ := checkH_ok hc
  exact ⟨hlen, by have := htl.len; have e : x.hist.writes.length = (x.w.to Wt).length := rfl; omega⟩

theorem lawCls : Law Try.prog 33 ((rdHi.two rdD).sp spCls) := by
  refine law_in _ (by kernel_rfl) fun H w ⟨⟨ha, hb, hc⟩, a⟩ hok hp => ?_
  obtain ⟨hR, hra, hla⟩ := hp _ (List.mem_singleton.2 rfl)
  simp only at hR hra hla
  obtain ⟨ra, rb, rc, la, lb, lc, rd⟩ := id hR
  simp only at ra rb rc la lb lc rd
  apply exec_sound ctNOk 300
  rw [show (rdHi.two rdD).canon (⟨ha, hb, hc⟩, a) = [.agg [.dat ha, .dat hb, .dat hc], .dat a] from rfl, cls_in]
  have e0 : closedB (HiD.mk ha hb hc).hist (a.to Int) = (decide ((checkH (HiD.mk ha hb hc).hist).1 = 0) && (setH (a.to Int) (hb.to Wt).length && closedS (hc.to Ev) (hb.to Wt).length (a.to Int))) := rfl
  refine ⟨hR, fun hs => ⟨fun h => ?_, fun h => ret_lb (by rw [e0, h]; rfl)⟩⟩
  have h0 : (checkH (HiD.mk ha hb hc).hist).1 = 0 := of_decide_eq_true h
  obtain ⟨l1, l2⟩ := ck_right hR h0
  simp only [h0, onOk_ok]
  refine ⟨⟨hra, hla, rb⟩, fun h2 => ?_, fun h2 => ret_lb ?_⟩
  · have i1 := D.like_is (hs 0 0) (checkH (HiD.mk ha hb hc).hist).2.issued
    have i2 := D.like_is (hs 0 1) (checkH (HiD.mk ha hb hc).hist).2.acked
    have t1 := D.like_to (hs 0 0) (checkH (HiD.mk ha hb hc).hist).2.issued
    have t2 := D.like_to (hs 0 1) (checkH (HiD.mk ha hb hc).hist).2.acked
    rw [t1, t2]
    refine ⟨⟨rb, i1, i2, hra, lb, hla, l1, l2, h2⟩, ret_bool ?_⟩
    rw [e0, h, h2]
    exact closed_same h0 h2
  · rw [e0, h, h2]; rfl

theorem lawFst : Law Try.prog 34 (rdInt.one.sp spFst) := by
  refine law_in _ (by kernel_rfl) fun H w n hok hp => ?_
  have hn : n ≤ 1000000 := hp _ (List.mem_singleton.2 rfl)
  apply exec_sound ctNROk 300
  rw [show rdInt.one.canon n = [.int .i64 n] from rfl, fst_in]
  refine vecIn_to 9 3 1 none 3 (fstL (.slc none 1 []) n 0) (by kernel_rfl) ?_
  refine runs_loop (fun q : D × Nat => fstL q.1 n q.2) (fun q => (q.2 = 0 ∨ (q.2 : Int) ≤ n) ∧ q.1.Is Int ∧ q.1.sz = 1 ∧ q.1.to Int = (List.range q.2).map fun (a : Nat) => (a : Int)) (fun q => n.toNat - q.2) (fun _ => rfl) ?_ (.slc none 1 [], 0) ⟨.inl rfl, is_nil _ _, rfl, rfl⟩
  intro ⟨q, j⟩ ⟨hj, hq, hz, hto⟩ ih
  simp only at hj hq hz hto
  have ql := D.Is.length (α := Int) q
  rw [hto, List.length_map, List.length_range] at ql
  show Runs Try.prog ⟨w, H⟩ (unroll (fstL q n j)) _
  apply exec_sound (noCtr _) 300
  rw [fstL_go]
  refine ⟨fun hcj hs1 => ?_, fun hcj => ?_⟩
  · have hcj : (j : Int) < n := of_decide_eq_true hcj
    refine ⟨⟨hz, .inr rfl, by simp only [len_slc, List.length_cons, List.length_nil]; omega, by simp only [len_slc, List.length_cons, List.length_nil]; omega⟩, fun hs2 => ?_⟩
    have hr := rows_app (rows_of hq) (int_one (j : Int))
    obtain ⟨i1, i2⟩ := is_of (h := D.hd (hs2 0 0)) (s := 1) rfl hr
    have := ih (_, j + 1) ⟨.inr (by simp only; omega), i1, rfl, i2.trans (by rw [hto, List.range_succ, List.map_append]; rfl)⟩ (by simp only; omega)
    simp only at this
    rw [← wrap_succ (n := 1000001) (by omega) (by omega)] at this
    exact this
  · have hcj := of_decide_eq_false hcj
    refine ret_one (stands_dat hq hto) ?_
    unfold firstN
    congr 2
    omega


end Go.Proofs.Ytodhhmjilnfecaa
end
section
open Go Go.Proofs Sx
namespace Go.Proofs.Ytodhhmjilnfecaa
set_option maxRecDepth 100000
set_option maxHeartbeats 0
noncomputable def rsT (a : D) : List SV := mkU [(0, SV.junk 0), (1, .dat a), (2, .ptr 100000 0), (3, SV.junk 3), (4, .ptr 100001 0), (5, SV.junk 5), (6, SV.junk 6), (7, SV.junk 7), (8, .ptr 100002 0), (9, SV.junk 9), (11, SV.junk 11), (12, SV.junk 12), (13, SV.junk 13), (14, SV.junk 14), (15, SV.junk 15), (16, SV.junk 16), (17, SV.junk 17), (18, SV.junk 18), (19, SV.junk 19), (20, SV.junk 20), (21, SV.junk 21), (22, SV.junk 22), (23, SV.junk 23), (24, SV.junk 24), (25, SV.junk 25), (26, SV.junk 26), (27, SV.junk 27), (28, SV.junk 28), (29, SV.junk 29), (30, SV.junk 30), (31, SV.junk 31), (32, SV.junk 32), (33, SV.junk 33), (34, SV.junk 34), (35, SV.junk 35), (36, SV.junk 36), (37, SV.junk 37), (38, SV.junk 38), (39, SV.junk 39), (40, SV.junk 40), (41, SV.fn 100 [] [.ptr 100003 0, .ptr 100004 0]), (42, SV.junk 42), (50, SV.junk 50), (51, SV.junk 51), (52, SV.junk 52), (53, SV.junk 53), (54, SV.junk 54), (55, SV.junk 55), (56, SV.junk 56), (57, SV.junk 57), (58, SV.junk 58), (59, SV.junk 59), (60, SV.junk 60), (61, SV.junk 61), (62, SV.junk 62), (63, SV.junk 63), (64, SV.junk 64), (65, SV.junk 65), (66, SV.junk 66), (67, SV.junk 67), (68, SV.junk 68), (69, SV.junk 69), (70, SV.junk 70), (71, SV.junk 71), (72, SV.junk 72), (73, SV.junk 73), (74, SV.junk 74)] 0 75
noncomputable def rsM (hs ha hb hc ga gb gc i o a q : D) : Mem := (100003, OBlk.cells 22 [.dat a]) :: (100004, OBlk.cells 121 [.dat ha, .dat hb, .dat hc, .dat i, .dat o]) :: [(100000, OBlk.cells 26 [.dat ga, .dat gb, .dat gc]), (100001, OBlk.cells 26 [.nils, .nils, .nils]), (100002, OBlk.cells 26 [.dat hs, .vec 9, .nils]), (9, OBlk.arr 31 q)]
noncomputable def rsN (hs ha hb hc ga gb gc i o a q : D) (z : Int) : Mem := (1010, OBlk.cells 31 [.int .i64 (hb.getInt (Int.toNat z) 0), .int .i64 (hb.getInt (Int.toNat z) 1), .dat (hb.cell (Int.toNat z) 2)]) :: rsM hs ha hb hc ga gb gc i o a q
noncomputable def rsR (hb a : D) (z : Int) : List SV := ((rsT a).set 42 (.int .i64 z)).set 43 (wvH hb z)
noncomputable def rs1L (ha hb hc a q : D) (z : Int) : Conf := Conf.mk (SFrm.mk 59 none none [Item.inLoop (cAt Try.prog 59 [1, 1, 1, 1, 1, 0, 1, 0, 0]), Item.inBlock 0, Item.code (cAt Try.prog 59 [1, 1, 1, 1, 1, 1])] (mkJ 0 [(1, .dat a), (2, .ptr 0 0), (4, .ptr 1 0), (7, .ptr 2 0), (8, .int .i64 z)] 0 90)) [] [(0, OBlk.cells 26 [.dat ha, .dat hb, .dat hc]), (1, OBlk.cells 26 [.nils, .nils, .nils]), (2, OBlk.cells 26 [.dat ha, .nils, .vec 3]), (3, .arr 108 q)]
noncomputable def rs2L (ha hb hc a q : D) (z x : Int) : Conf := Conf.mk (SFrm.mk 59 none none [Item.inLoop (cAt Try.prog 59 [1, 1, 1, 1, 1, 0, 1, 0, 0, 1, 0, 0, 1, 0, 0]), Item.inBlock 2, Item.inBlock 1, Item.code (cAt Try.prog 59 [1, 1, 1, 1, 1, 0, 1, 0, 0, 1, 1]), Item.inLoop (cAt Try.prog 59 [1, 1, 1, 1, 1, 0, 1, 0, 0]), Item.inBlock 0, Item.code (cAt Try.prog 59 [1, 1, 1, 1, 1, 1])] (mkJ 0 [(1, .dat a), (2, .ptr 0 0), (4, .ptr 1 0), (7, .ptr 2 0), (8, .int .i64 z), (9, .int .i64 x)] 0 90)) [] [(0, OBlk.cells 26 [.dat ha, .dat hb, .dat hc]), (1, OBlk.cells 26 [.nils, .nils, .nils]), (2, OBlk.cells 26 [.dat ha, .nils, .vec 3]), (3, .arr 108 q)]
noncomputable def rs3L (ha hb hc a q p : D) (x : Int) : Conf := Conf.mk (SFrm.mk 59 none none [Item.inLoop (cAt Try.prog 59 [1, 1, 1, 1, 1, 1, 0, 1, 0, 0]), Item.inBlock 4, Item.code (cAt Try.prog 59 [1, 1, 1, 1, 1, 1, 1])] (mkJ 0 [(1, .dat a), (2, .ptr 0 0), (4, .ptr 1 0), (7, .ptr 2 0), (10, .int .i64 x)] 0 90)) [] [(0, OBlk.cells 26 [.dat ha, .dat hb, .dat hc]), (1, OBlk.cells 26 [.nils, .nils, .nils]), (2, OBlk.cells 26 [.dat ha, .vec 3, .vec 4]), (3, .arr 31 p), (4, .arr 108 q)]
section
variable (p : D) (x : Int) (hs ha hb hc ga gb gc i o a q : D) (z : Int)
theorem rs1_go : exec Try.prog ctRR 400 (unroll (rs1L ha hb hc a q z)) =
 Tree.br (decide (z < (↑(D.len hc) : Int)))
 (.leaf
 (Conf.mk
 (SFrm.mk 59 none none
 [Item.inLoop (cAt Try.prog 59 [1, 1, 1, 1, 1, 0, 1, 0, 0, 1, 0, 0, 1, 0, 0]), Item.inBlock 2, Item.inBlock 1,
 Item.code (cAt Try.prog 59 [1, 1, 1, 1, 1, 0, 1, 0, 0, 1, 1]),
 Item.inLoop (cAt Try.prog 59 [1, 1, 1, 1, 1, 0, 1, 0, 0]), Item.inBlock 0,
 Item.code (cAt Try.prog 59 [1, 1, 1, 1, 1, 1])]
 (mkJ 0
 [(1, .dat a), (2, .ptr 0 0), (4, .ptr 1 0), (7, .ptr 2 0), (8, .int .i64 z),
 (9, .int .i64 0)]
 0 90))
 []
 [(0, OBlk.cells 26 [.dat ha, .dat hb, .dat hc]), (1, OBlk.cells 26 [.nils, .nils, .nils]),
 (2, OBlk.cells 26 [.dat ha, .nils, .vec 3]), (3, OBlk.arr 108 q)]))
 (.leaf
 (Conf.mk
 (SFrm.mk 59 none none
 [Item.inLoop (cAt Try.prog 59 [1, 1, 1, 1, 1, 1, 0, 1, 0, 0]), Item.inBlock 4,
 Item.code (cAt Try.prog 59 [1, 1, 1, 1, 1, 1, 1])]
 (mkJ 0 [(1, .dat a), (2, .ptr 0 0), (4, .ptr 1 0), (7, .ptr 2 0), (10, .int .i64 0)] 0 90))
 []
 [(0, OBlk.cells 26 [.dat ha, .dat hb, .dat hc]), (1, OBlk.cells 26 [.nils, .nils, .nils]),
 (2, OBlk.cells 26 [.dat ha, .nils, .vec 3]), (3, OBlk.arr 108 q)])) := by kernel_rfl

theorem rs2_go : exec Try.prog ctRR 400 (unroll (rs2L ha hb hc a q z x)) =
 Tree.br (decide (x < (↑(D.len a) : Int)))
 (.all fun hs =>
 .need (0 ≤ x ∧ x < (↑(D.len a) : Int) ∧ D.sz a = 1)
 (.need (D.HasCell a (Int.toNat x) 0 (FT.int .i64))
 (.need (0 ≤ z ∧ z < (↑(D.len hc) : Int) ∧ D.sz hc = 2)
 (.need (D.HasCell hc (Int.toNat z) 1 (FT.int .i64))
 (.br (decide (D.getInt a (Int.toNat x) 0 = D.getInt hc (Int.toNat z) 1))
 (.all fun hs =>
 .need (0 ≤ z ∧ z < (↑(D.len hc) : Int) ∧ D.sz hc = 2)
 (.need (D.HasCell hc (Int.toNat z) 0 (FT.int .i64))
 (.need
 (D.sz q = 2 ∧
 D.Fits
 (D.slc (D.hd (hs 10 0)) 2
 [[D.int .i64 (D.getInt hc (Int.toNat z) 0), D.int .i64 x]])
 2 ∧
 (D.len q +
 D.len
 (D.slc (D.hd (hs 10 0)) 2
 [[D.int .i64 (D.getInt hc (Int.toNat z) 0), D.int .i64 x]])) *
 16 ≤
 140737488355328 ∧
 D.len q +
 D.len
 (D.slc (D.hd (hs 10 0)) 2
 [[D.int .i64 (D.getInt hc (Int.toNat z) 0), D.int .i64 x]]) ≤
 9223372036854775807)
 (.leaf
 (Conf.mk
 (SFrm.mk 59 none none
 [Item.inLoop (cAt Try.prog 59 [1, 1, 1, 1, 1, 0, 1, 0, 0, 1, 0, 0, 1, 0, 0]),
 Item.inBlock 2, Item.inBlock 1,
 Item.code (cAt Try.prog 59 [1, 1, 1, 1, 1, 0, 1, 0, 0, 1, 1]),
 Item.inLoop (cAt Try.prog 59 [1, 1, 1, 1, 1, 0, 1, 0, 0]), Item.inBlock 0,
 Item.code (cAt Try.prog 59 [1, 1, 1, 1, 1, 1])]
 (mkJ 0
 [(1, .dat a), (2, .ptr 0 0), (4, .ptr 1 0), (7, .ptr 2 0),
 (8, .int .i64 z), (9, .int .i64 (IntKind.wrap .i64 (x + 1)))]
 0 90))
 []
 [(0, OBlk.cells 26 [.dat ha, .dat hb, .dat hc]),
 (1, OBlk.cells 26 [.nils, .nils, .nils]),
 (2, OBlk.cells 26 [.dat ha, .nils, .vec 3]),
 (3,
 OBlk.arr 108
 (D.slc (D.hd (hs 11 0)) 2
 (List.append (D.rows q)
 (D.rows
 (D.slc (D.hd (hs 10 0)) 2
 [[D.int .i64 (D.getInt hc (Int.toNat z) 0),
 D.int .i64 x]])))))])))))
 (.leaf
 (Conf.mk
 (SFrm.mk 59 none none
 [Item.inLoop (cAt Try.prog 59 [1, 1, 1, 1, 1, 0, 1, 0, 0, 1, 0, 0, 1, 0, 0]), Item.inBlock 2,
 Item.inBlock 1, Item.code (cAt Try.prog 59 [1, 1, 1, 1, 1, 0, 1, 0, 0, 1, 1]),
 Item.inLoop (cAt Try.prog 59 [1, 1, 1, 1, 1, 0, 1, 0, 0]), Item.inBlock 0,
 Item.code (cAt Try.prog 59 [1, 1, 1, 1, 1, 1])]
 (mkJ 0
 [(1, .dat a), (2, .ptr 0 0), (4, .ptr 1 0), (7, .ptr 2 0), (8, .int .i64 z),
 (9, .int .i64 (IntKind.wrap .i64 (x + 1)))]
 0 90))
 []
 [(0, OBlk.cells 26 [.dat ha, .dat hb, .dat hc]), (1, OBlk.cells 26 [.nils, .nils, .nils]),
 (2, OBlk.cells 26 [.dat ha, .nils, .vec 3]), (3, OBlk.arr 108 q)])))))))
 (.leaf
 (Conf.mk
 (SFrm.mk 59 none none
 [Item.inLoop (cAt Try.prog 59 [1, 1, 1, 1, 1, 0, 1, 0, 0]), Item.inBlock 0,
 Item.code (cAt Try.prog 59 [1, 1, 1, 1, 1, 1])]
 (mkJ 0
 [(1, .dat a), (2, .ptr 0 0), (4, .ptr 1 0), (7, .ptr 2 0),
 (8, .int .i64 (IntKind.wrap .i64 (z + 1)))]
 0 90))
 []
 [(0, OBlk.cells 26 [.dat ha, .dat hb, .dat hc]), (1, OBlk.cells 26 [.nils, .nils, .nils]),
 (2, OBlk.cells 26 [.dat ha, .nils, .vec 3]), (3, OBlk.arr 108 q)])) := by kernel_rfl

theorem rs3_go : exec Try.prog ctRR 400 (unroll (rs3L ha hb hc a q p x)) =
 Tree.br (decide (x < (↑(D.len a) : Int)))
 (.all fun hs =>
 .need (0 ≤ x ∧ x < (↑(D.len a) : Int) ∧ D.sz a = 1)
 (.need (D.HasCell a (Int.toNat x) 0 (FT.int .i64))
 (.need (0 ≤ D.getInt a (Int.toNat x) 0 ∧ D.getInt a (Int.toNat x) 0 < (↑(D.len hb) : Int) ∧ D.sz hb = 3)
 (.need
 (D.HasCells hb (Int.toNat (D.getInt a (Int.toNat x) 0)) 0 [FT.int .i64, FT.int .i64, FT.slc])
 (.need
 (D.sz p = 3 ∧
 D.Fits
 (D.slc (D.hd (hs 10 0)) 3
 [[D.int .i64 (D.getInt hb (Int.toNat (D.getInt a (Int.toNat x) 0)) 0),
 D.int .i64 (D.getInt hb (Int.toNat (D.getInt a (Int.toNat x) 0)) 1),
 D.cell hb (Int.toNat (D.getInt a (Int.toNat x) 0)) 2]])
 3 ∧
 (D.len p +
 D.len
 (D.slc (D.hd (hs 10 0)) 3
 [[D.int .i64 (D.getInt hb (Int.toNat (D.getInt a (Int.toNat x) 0)) 0),
 D.int .i64 (D.getInt hb (Int.toNat (D.getInt a (Int.toNat x) 0)) 1),
 D.cell hb (Int.toNat (D.getInt a (Int.toNat x) 0)) 2]])) *
 40 ≤
 140737488355328 ∧
 D.len p +
 D.len
 (D.slc (D.hd (hs 10 0)) 3
 [[D.int .i64 (D.getInt hb (Int.toNat (D.getInt a (Int.toNat x) 0)) 0),
 D.int .i64 (D.getInt hb (Int.toNat (D.getInt a (Int.toNat x) 0)) 1),
 D.cell hb (Int.toNat (D.getInt a (Int.toNat x) 0)) 2]]) ≤
 9223372036854775807)
 (.leaf
 (Conf.mk
 (SFrm.mk 59 none none
 [Item.inLoop (cAt Try.prog 59 [1, 1, 1, 1, 1, 1, 0, 1, 0, 0]), Item.inBlock 4,
 Item.code (cAt Try.prog 59 [1, 1, 1, 1, 1, 1, 1])]
 (mkJ 0
 [(1, .dat a), (2, .ptr 0 0), (4, .ptr 1 0), (7, .ptr 2 0),
 (10, .int .i64 (IntKind.wrap .i64 (x + 1)))]
 0 90))
 []
 [(0, OBlk.cells 26 [.dat ha, .dat hb, .dat hc]), (1, OBlk.cells 26 [.nils, .nils, .nils]),
 (2, OBlk.cells 26 [.dat ha, .vec 3, .vec 4]),
 (3,
 OBlk.arr 31
 (D.slc (D.hd (hs 11 0)) 3
 (List.append (D.rows p)
 (D.rows
 (D.slc (D.hd (hs 10 0)) 3
 [[D.int .i64 (D.getInt hb (Int.toNat (D.getInt a (Int.toNat x) 0)) 0),
 D.int .i64 (D.getInt hb (Int.toNat (D.getInt a (Int.toNat x) 0)) 1),
 D.cell hb (Int.toNat (D.getInt a (Int.toNat x) 0)) 2]]))))),
 (4, OBlk.arr 108 q)])))))))
 (.need (HiD.Right (HiD.mk ha p q))
 (.all fun hs =>
 .ret
 (SV.tup
 [.agg
 [.dat (D.like (hs 0 0) (D.to Int ha)), .dat (D.like (hs 0 1) (D.to Wt p)),
 .dat (D.like (hs 0 2) (D.to Ev q))],
 .int .i64 0]))) := by kernel_rfl

end
end Go.Proofs.Ytodhhmjilnfecaa
end
section
open Go Go.Proofs Sx
namespace Go.Proofs.Ytodhhmjilnfecaa
set_option maxRecDepth 100000

theorem ctRROk : Ctrs.Ok Try.prog ctRR := by
  intro x hx
  rcases List.mem_cons.1 hx with rfl | hx
  · exact ctrOf_ok lawCopyR
  rcases List.mem_cons.1 hx with rfl | hx
  · exact ctrOf_ok lawClR
  · exact ctNROk x hx

section
variable {H : HV} {w : World} {ha hb hc a : D} (hR : (HiD.mk ha hb hc).Right) (hra : a.Is Int) (hla : a.len ≤ 1048576)
  (h0 : (checkH (HiD.mk ha hb hc).hist).1 = 0) (h2 : setH (a.to Int) (hb.to Wt).length = true) (h3 : closedS (hc.to Ev) (hb.to Wt).length (a.to Int) = true)
include hR hra hla h0 h2 h3

theorem rest_result {q p : D} (hq : q.Is Wt) (hql : q.len ≤ 1048576) (hqt : q.to Wt = pickW (hb.to Wt) (a.to Int)) (hp : p.Is Ev) (hpl : p.len ≤ 1048576) (hpt : p.to Ev = restE (a.to Int) (hc.to Ev)) :
    (HiD.mk ha q p).Right ∧ ∀ hs : Nat → Nat → D, (Tree.ret (SV.tup [SV.agg [SV.dat (D.like (hs 0 0) (ha.to Int)), SV.dat (D.like (hs 0 1) (q.to Wt)), SV.dat (D.like (hs 0 2) (p.to Ev))], SV.int IntKind.i64 0])).holds Try.prog ⟨w, H⟩
      (RetD w H fun ds => .tup [hiSV ds (restrictH (HiD.mk ha hb hc).hist (a.to Int)).1, .int .i64 (restrictH (HiD.mk ha hb hc).hist (a.to Int)).2]) := by
  obtain ⟨ra, rb, rc, la, lb, lc, rd⟩ := id hR
  simp only at ra rb rc la lb lc rd
  have hr : restrictH (HiD.mk ha hb hc).hist (a.to Int) = (⟨ha.to Int, q.to Wt, p.to Ev⟩, 0) := by rw [rest_ok h0 h2 h3, hqt, hpt]; rfl
  refine ⟨⟨ra, hq, hp, la, hql, hpl, fun x hx => ?_⟩, fun hs => ?_⟩
  · simp only [hqt, pickW, List.mem_map] at hx
    obtain ⟨n, hn, rfl⟩ := hx
    obtain ⟨k, hk, rfl⟩ := List.getElem_of_mem hn
    have hz := setH_in h2 hk
    have hlt : ((a.to Int)[k]).toNat < (hb.to Wt).length := by omega
    have : (hb.to Wt).getD ((a.to Int)[k]).toNat zWt = (hb.to Wt)[((a.to Int)[k]).toNat] := by simp [hlt]
    rw [this]
    exact rd _ (List.getElem_mem hlt)
  · exact ret_hiI stands_like stands_like stands_like (by rw [hr]) (by rw [hr])

end

theorem lawRestR : Law Try.prog 59 ((rdHi.two rdD).sp spRest) := by
  refine law_in _ (by kernel_rfl) fun H w ⟨⟨ha, hb, hc⟩, a⟩ hok hp => ?_
  obtain ⟨hR, hra, hla⟩ := hp _ (List.mem_singleton.2 rfl)
  simp only at hR hra hla
  obtain ⟨ra, rb, rc, la, lb, lc, rd⟩ := id hR
  simp only at ra rb rc la lb lc rd
  have al := D.Is.length (α := Int) a
  have bl := D.Is.length (α := Wt) hb
  have el := D.Is.length (α := Ev) hc
  apply exec_sound ctRROk 400
  rw [show (rdHi.two rdD).canon (⟨ha, hb, hc⟩, a) = [.agg [.dat ha, .dat hb, .dat hc], .dat a] from rfl, rstR_in, bl]
  refine ⟨hR, fun h => ?_, fun h => ?_⟩
  · have h : (checkH (HiD.mk ha hb hc).hist).1 ≠ 0 := by simpa using h
    exact ret_hiI (s := []) (ws := []) (es := []) stands_nils stands_nils stands_nils (by rw [rest_e1 h]; rfl) (by rw [rest_e1 h])
  have h0 : (checkH (HiD.mk ha hb hc).hist).1 = 0 := by simpa using h
  refine ⟨⟨hra, hla⟩, fun h2 => ?_, fun h2 => ⟨⟨rc, lc, rb, by omega, hra, hla⟩, fun h3 => ?_, fun h3 => ?_⟩⟩
  · have h2 : setH (a.to Int) (hb.to Wt).length = false := by simpa using h2
    have e := rest_e2 (h := (HiD.mk ha hb hc).hist) (set := a.to Int) h0 h2
    exact ret_hiI (s := []) (ws := []) (es := []) stands_nils stands_nils stands_nils (by rw [e]; rfl) (by rw [e])
  · have h2 : setH (a.to Int) (hb.to Wt).length = true := by simpa using h2
    have h3 : closedS (hc.to Ev) (hb.to Wt).length (a.to Int) = false := by simpa using h3
    have e := rest_e27 (h := (HiD.mk ha hb hc).hist) (set := a.to Int) h0 h2 h3
    exact ret_hiI (s := []) (ws := []) (es := []) stands_nils stands_nils stands_nils (by rw [e]; rfl) (by rw [e])
  have h2 : setH (a.to Int) (hb.to Wt).length = true := by simpa using h2
  have h3 : closedS (hc.to Ev) (hb.to Wt).length (a.to Int) = true := by simpa using h3
  refine vecIn_to 9 108 2 (some 2) 2 (rs1L ha hb hc a (.slc none 2 []) 0) (by kernel_rfl) ?_
  refine runs_loop (fun p : D × Nat => rs1L ha hb hc a p.1 p.2) (fun p => p.2 ≤ (hc.to Ev).length ∧ p.1.Is Ev ∧ p.1.sz = 2 ∧ p.1.to Ev = restE (a.to Int) ((hc.to Ev).take p.2)) (fun p => (hc.to Ev).length - p.2) (fun _ => rfl) ?_ (.slc none 2 [], 0) ⟨Nat.zero_le _, is_nil _ _, rfl, rfl⟩
  intro ⟨q, j⟩ ⟨hj, hq, hz, hto⟩ ih
  simp only at hj hq hz hto
  have ql := D.Is.length (α := Ev) q
  have ql2 := restE_len h2 ((hc.to Ev).take j)
  rw [hto] at ql
  rw [List.length_take] at ql2
  show Runs Try.prog _ (unroll (rs1L ha hb hc a q j)) _
  apply exec_sound ctRROk 400
  rw [rs1_go]
  refine ⟨fun hcj => ?_, fun hcj => ?_⟩
  · have hcj : j < (hc.to Ev).length := by have := of_decide_eq_true hcj; omega
    obtain ⟨c1, c2, c3⟩ := ev_cell rc hcj
    have sn := restE_snoc (set := a.to Int) hcj
    unfold evR at sn
    generalize hev : (hc.to Ev)[j] = ev at c2 c3 sn
    obtain ⟨k, y⟩ := ev
    simp only at c2 c3 sn
    have g0 : hc.getInt (Int.toNat (j : Int)) 0 = k := c2
    have g1 : hc.getInt (Int.toNat (j : Int)) 1 = y := c3
    have c0 : 0 ≤ (j : Int) ∧ (j : Int) < (hc.len : Int) ∧ hc.sz = 2 := ⟨by omega, by omega, rc.size hcj⟩
    refine runs_loop (fun p : D × Nat => rs2L ha hb hc a p.1 j p.2) (fun p => p.2 ≤ (a.to Int).length ∧ p.1.Is Ev ∧ p.1.sz = 2 ∧ p.1.len ≤ j + p.2 ∧ p.1.to Ev = restE (a.to Int) ((hc.to Ev).take j) ++ ((List.range p.2).filter fun i => decide ((a.to Int).getD i 0 = y)).map fun (i : Nat) => (⟨k, i⟩ : Ev)) (fun p => (a.to Int).length - p.2) (fun _ => rfl) ?_ (q, 0) ⟨Nat.zero_le _, hq, hz, by simp only; omega, by simpa using hto⟩
    intro ⟨p, x⟩ ⟨hx, hp, hpz, hpl, hpt⟩ ihx
    simp only at hx hp hpz hpl hpt
    show Runs Try.prog _ (unroll (rs2L ha hb hc a p j x)) _
    apply exec_sound ctRROk 400
    rw [rs2_go]
    refine ⟨fun hcx hs => ?_, fun hcx => ?_⟩
    · have hcx : x < (a.to Int).length := by have := of_decide_eq_true hcx; omega
      obtain ⟨d1, d2, d3⟩ := int_at hra hcx
      have gx : (a.to Int).getD x 0 = (a.to Int)[x] := getD_lt hcx
      have sx : ((List.range (x + 1)).filter fun i => decide ((a.to Int).getD i 0 = y)) = ((List.range x).filter fun i => decide ((a.to Int).getD i 0 = y)) ++ (if (a.to Int)[x] = y then [x] else []) := by
        rw [List.range_succ, List.filter_append]
        congr 1
        simp only [List.filter_cons, List.filter_nil, gx, decide_eq_true_eq]
      rw [d3, g0, g1]
      refine ⟨d1, d2, c0, c1.2.1, fun h hs1 => ?_, fun h => ?_⟩
      · have h := of_decide_eq_true h
        rw [if_pos h] at sx
        refine ⟨c0, c1.1, ⟨hpz, .inr rfl, by simp only [len_slc, List.length_cons, List.length_nil]; omega, by simp only [len_slc, List.length_cons, List.length_nil]; omega⟩, ?_⟩
        have hr := rows_app (rows_of hp) (ev_one k (x : Int))
        obtain ⟨i1, i2⟩ := is_of (h := D.hd (hs1 11 0)) (s := 2) rfl hr
        have := ihx (_, x + 1) ⟨hcx, i1, rfl, by simp only [len_slc, append_list, List.length_append, rows_slc, List.length_cons, List.length_nil]; have : p.rows.length = p.len := rfl; omega, i2.trans (by rw [hpt, sx, List.map_append, List.append_assoc]; rfl)⟩ (by simp only; omega)
        simp only at this
        rw [← wrap_succ hcx (by omega)] at this
        exact this
      · have h := of_decide_eq_false h
        rw [if_neg h, List.append_nil] at sx
        have := ihx (p, x + 1) ⟨hcx, hp, hpz, by simp only; omega, by simp only; rw [hpt, sx]⟩ (by simp only; omega)
        simp only at this
        rw [← wrap_succ hcx (by omega)] at this
        exact this
    · have : x = (a.to Int).length := by have := of_decide_eq_false hcx; omega
      subst this
      have := ih (p, j + 1) ⟨hcj, hp, hpz, hpt.trans sn.symm⟩ (by simp only; omega)
      simp only at this
      rw [← wrap_succ hcj (by omega)] at this
      exact this
  · have : j = (hc.to Ev).length := by have := of_decide_eq_false hcj; omega
    subst this
    rw [List.take_length] at hto
    refine vecIn_to 9 31 3 (some 2) 1 (rs3L ha hb hc a q (.slc none 3 []) 0) (by kernel_rfl) ?_
    refine runs_loop (fun p : D × Nat => rs3L ha hb hc a q p.1 p.2) (fun p => p.2 ≤ (a.to Int).length ∧ p.1.Is Wt ∧ p.1.sz = 3 ∧ p.1.to Wt = pickW (hb.to Wt) ((a.to Int).take p.2)) (fun p => (a.to Int).length - p.2) (fun _ => rfl) ?_ (.slc none 3 [], 0) ⟨Nat.zero_le _, is_nil _ _, rfl, rfl⟩
    intro ⟨p, x⟩ ⟨hx, hp, hpz, hpt⟩ ihx
    simp only at hx hp hpz hpt
    have pl := D.Is.length (α := Wt) p
    rw [hpt, pickW_len, List.length_take] at pl
    show Runs Try.prog _ (unroll (rs3L ha hb hc a q p x)) _
    apply exec_sound ctRROk 400
    rw [rs3_go]
    refine ⟨fun hcx hs => ?_, fun hcx => ?_⟩
    · have hcx : x < (a.to Int).length := by have := of_decide_eq_true hcx; omega
      obtain ⟨d1, d2, d3⟩ := int_at hra hcx
      have hzr := setH_in h2 hcx
      obtain ⟨z, hzz⟩ := Int.eq_ofNat_of_zero_le hzr.1
      have hzb : z < (hb.to Wt).length := by omega
      obtain ⟨c1, c2, c3⟩ := wt_cell rb hzb
      rw [d3, hzz]
      simp only [Int.toNat_natCast]
      refine ⟨by simpa using d1, by simpa using d2, ⟨by omega, by omega, rb.size hzb⟩, c1, ⟨hpz, .inr rfl, by simp only [len_slc, List.length_cons, List.length_nil]; omega, by simp only [len_slc, List.length_cons, List.length_nil]; omega⟩, ?_⟩
      have hr := rows_app (rows_of hp) (wt_one (hb.getInt z 0) (hb.getInt z 1) c2)
      obtain ⟨i1, i2⟩ := is_of (h := D.hd (hs 11 0)) (s := 3) rfl hr
      have := ihx (_, x + 1) ⟨hcx, i1, rfl, i2.trans (by
        rw [hpt, pickW_snoc hcx, hzz]
        congr 1
        have : (hb.to Wt).getD (Int.toNat (z : Int)) zWt = (hb.to Wt)[z] := by simp [hzb]
        rw [this, c3])⟩ (by simp only; omega)
      simp only at this
      rw [← wrap_succ hcx (by omega)] at this
      exact this
    · have : x = (a.to Int).length := by have := of_decide_eq_false hcx; omega
      subst this
      rw [List.take_length] at hpt
      obtain ⟨x1, x2⟩ := rest_result (w := w) (H := H) hR hra hla h0 h2 h3 hp (by omega) hpt hq (by omega) hto
      exact ⟨x1, x2⟩
end Go.Proofs.Ytodhhmjilnfecaa
end
section
open Go Go.Proofs Sx
namespace Go.Proofs.Ytodhhmjilnfecaa
set_option maxRecDepth 100000
set_option maxHeartbeats 0
section
variable (p : Int) (a : D)
theorem una_in : execR Try.prog [] 200 (entry Try.prog 57 [.agg [.dat a], .int .i64 p]) =
 Tree.need (0 ≤ (↑0 : Int) ∧ (↑0 : Int) ≤ p ∧ p ≤ (↑(D.len a) : Int) ∧ D.Fits a 1)
 (.leaf
 (Conf.mk
 (SFrm.mk 57 none none
 [Item.inLoop (cAt Try.prog 57 [1, 1, 0, 1, 0, 0]), Item.inBlock 0, Item.code (cAt Try.prog 57 [1, 1, 1])]
 (mkJ 0
 [(5, .nils), (11, .dat (D.sub a 0 (Int.toNat p))),
 (12, .int .i64 (↑(D.len (D.sub a 0 (Int.toNat p))) : Int)), (13, .int .i64 0)]
 0 26))
 [] [])) := by kernel_rfl

end
end Go.Proofs.Ytodhhmjilnfecaa
end
section
open Go Go.Proofs Sx
namespace Go.Proofs.Ytodhhmjilnfecaa
set_option maxRecDepth 100000
set_option maxHeartbeats 0
noncomputable def unaL (d r : D) (j : Int) : Conf := Conf.mk (SFrm.mk 57 none none [Item.inLoop (cAt Try.prog 57 [1, 1, 0, 1, 0, 0]), Item.inBlock 0, Item.code (cAt Try.prog 57 [1, 1, 1])] (mkJ 0 [(5, .vec 0), (11, .dat d), (12, .int .i64 (d.len : Int)), (13, .int .i64 j)] 0 26)) [] [(0, .arr 3 r)]
section
variable (j : Int) (d r : D)
theorem una_go : execR Try.prog [] 200 (unroll (unaL d r j)) =
 Tree.br (decide (j < (↑(D.len d) : Int)))
 (.need (0 ≤ j ∧ j < (↑(D.len d) : Int) ∧ D.sz d = 1)
 (.need (D.HasCell d (Int.toNat j) 0 FT.bool)
 (.br (!D.getBool d (Int.toNat j) 0)
 (.all fun hs =>
 .need
 (D.sz r = 1 ∧
 D.Fits (D.slc (D.hd (hs 0 0)) 1 [[D.int .i64 j]]) 1 ∧
 (D.len r + D.len (D.slc (D.hd (hs 0 0)) 1 [[D.int .i64 j]])) * 8 ≤ 140737488355328 ∧
 D.len r + D.len (D.slc (D.hd (hs 0 0)) 1 [[D.int .i64 j]]) ≤ 9223372036854775807)
 (.all fun hs_1 =>
 .leaf
 (Conf.mk
 (SFrm.mk 57 none none
 [Item.inLoop (cAt Try.prog 57 [1, 1, 0, 1, 0, 0]), Item.inBlock 0,
 Item.code (cAt Try.prog 57 [1, 1, 1])]
 (mkJ 0
 [(5, .vec 0), (11, .dat d), (12, .int .i64 (↑(D.len d) : Int)),
 (13, .int .i64 (IntKind.wrap .i64 (j + 1)))]
 0 26))
 []
 [(0,
 OBlk.arr 3
 (D.slc (D.hd (hs_1 0 0)) 1
 (List.append (D.rows r) (D.rows (D.slc (D.hd (hs 0 0)) 1 [[D.int .i64 j]])))))])))
 (.leaf
 (Conf.mk
 (SFrm.mk 57 none none
 [Item.inLoop (cAt Try.prog 57 [1, 1, 0, 1, 0, 0]), Item.inBlock 0, Item.code (cAt Try.prog 57 [1, 1, 1])]
 (mkJ 0
 [(5, .vec 0), (11, .dat d), (12, .int .i64 (↑(D.len d) : Int)),
 (13, .int .i64 (IntKind.wrap .i64 (j + 1)))]
 0 26))
 [] [(0, OBlk.arr 3 r)])))))
 (.leaf
 (Conf.mk
 (SFrm.mk 57 none none [Item.code (cAt Try.prog 57 [1, 1, 1, 1])]
 (mkJ 0
 [(4, .vec 0), (5, .vec 0), (11, .dat d), (12, .int .i64 (↑(D.len d) : Int)),
 (13, .int .i64 j), (14, .bool (decide (j < (↑(D.len d) : Int)))), (25, .vec 0)]
 0 26))
 [] [(0, OBlk.arr 3 r)])) := by kernel_rfl

end
end Go.Proofs.Ytodhhmjilnfecaa
end
section
open Go Go.Proofs Sx
namespace Go.Proofs.Ytodhhmjilnfecaa
set_option maxRecDepth 100000
set_option maxHeartbeats 0
theorem lawUna : OLaw Try.prog 57 (spUna 3) := by
  refine olaw_ints (by kernel_rfl) fun H w ⟨a, p⟩ hok hp => ?_
  obtain ⟨ha, p0, p1, hl⟩ := hp _ (List.mem_singleton.2 rfl)
  simp only at ha p0 p1 hl
  obtain ⟨p, rfl⟩ := Int.eq_ofNat_of_zero_le p0
  simp only [Int.toNat_natCast]
  have hal := D.Is.length (α := Bool) a
  apply execR_sound (noCtr _) 200
  rw [show (rdAk.two rdInt).canon (a, (p : Int)) = [.agg [.dat a], .int .i64 (p : Int)] from rfl, una_in]
  refine ⟨⟨by decide, p0, p1, ha.fits⟩, ?_⟩
  obtain ⟨s1, s2⟩ := sub_is ha p
  rw [Int.toNat_natCast]
  have e : ((a.to Bool).take p).length = p := by rw [List.length_take]; omega
  generalize hd : D.sub a 0 p = d at s1 s2
  have dl := D.Is.length (α := Bool) d
  rw [s2, e] at dl
  refine vecIn_to 9 3 1 none 5 (unaL d (.slc none 1 []) 0) (by kernel_rfl) ?_
  refine runs_loop (fun s : D × Nat => unaL d s.1 s.2) (fun s => s.2 ≤ p ∧ s.1.Is Int ∧ s.1.sz = 1 ∧ s.1.to Int = unackN (a.to Bool) s.2) (fun s => p - s.2) (fun _ => rfl) ?_ (_, 0) ⟨Nat.zero_le _, is_nil _ _, rfl, rfl⟩
  rintro ⟨r, j⟩ ⟨hj, r1, r2, r3⟩ ih
  simp only at hj r1 r2 r3 ih ⊢
  have rl : r.len ≤ 1048576 := by rw [D.Is.length (α := Int), r3]; exact Nat.le_trans filtN_len (by omega)
  apply execR_sound (noCtr _) 200
  rw [una_go]
  refine ⟨fun hc => ?_, fun hc => ?_⟩
  · have hc : j < p := by have := of_decide_eq_true hc; omega
    have hc2 : j < (d.to Bool).length := by rw [s2, e]; exact hc
    obtain ⟨c1, c2, c3⟩ := bool_at s1 hc2
    have e4 : (d.to Bool)[j] = (a.to Bool).getD j false := by
      have : (d.to Bool)[j]? = ((a.to Bool).take p)[j]? := by rw [s2]
      rw [List.getElem?_eq_getElem hc2, List.getElem?_take_of_lt hc] at this
      rw [List.getD_eq_getElem?_getD, ← this]; rfl
    have wj : IntKind.i64.wrap ((j : Int) + 1) = ((j + 1 : Nat) : Int) := wrap_succ hc (by omega)
    have sn : unackN (a.to Bool) (j + 1) = if (!(a.to Bool).getD j false) = true then unackN (a.to Bool) j ++ [(j : Int)] else unackN (a.to Bool) j := by
      unfold unackN; rw [filtN_succ]; simp only [Int.toNat_natCast]
    rw [wj, c3, e4]
    refine ⟨c1, c2, fun hz hs => ⟨apq_need r2 rl, fun hs1 => ?_⟩, fun hz => ?_⟩
    · rw [if_pos hz] at sn
      obtain ⟨i1, i2, i3⟩ := apq_is (a := D.hd (hs 0 0)) (b := D.hd (hs1 0 0)) (z := (j : Int)) r1 r3
      exact ih (_, j + 1) ⟨hc, i1, i2, i3.trans sn.symm⟩ (by simp only; omega)
    · rw [hz, if_neg Bool.false_ne_true] at sn
      exact ih (r, j + 1) ⟨hc, r1, r2, r3.trans sn.symm⟩ (by simp only; omega)
  · have hc := of_decide_eq_false hc
    have : j = p := by omega
    subst this
    exact own_ret (h := r) Try.func57 (by kernel_rfl) rfl (ints_rows r1 r2 r3)
theorem ctrUna : CtrOk Try.prog 57 (lCtr (spUna 3)) := lCtr_ok lawUna spOwnI_flat
end Go.Proofs.Ytodhhmjilnfecaa
end
section
open Go Go.Proofs Sx
namespace Go.Proofs.Ytodhhmjilnfecaa
set_option maxRecDepth 100000
set_option maxHeartbeats 0
section
variable (ha hb hc wt hd du : D) (fz : Bool)
theorem gr_in : goS Try.prog [] (fun _ => false) [(40, 1)] 50 (entry Try.prog 23 [.agg [.dat ha, .dat hb, .dat hc, .dat wt, .dat hd, .bool fz], .dat du]) =
 Tree.leaf
 (Conf.mk
 (SFrm.mk 40 none none [Item.code (cAt Try.prog 40 [0]), Item.code (cAt Try.prog 40 [1])]
 (mkJ 1 [(0, .agg [.dat ha, .dat hb, .dat hc, .dat wt, .dat hd, .bool fz])] 0 130))
 [SFrm.mk 23 (some (opsAt Try.prog 23 [1, 0], [2, 3, 4, 5, 6])) (some 16) [Item.code (cAt Try.prog 23 [1, 1])]
 (mkJ 0 [(1, .dat du), (4, .ptr 0 0)] 0 105)]
 [(0, OBlk.cells 28 [.nils, .nils, .nils, .nils, .nils, .lb false])]) := by kernel_rfl

end
end Go.Proofs.Ytodhhmjilnfecaa
end
section
open Go Go.Proofs Sx
namespace Go.Proofs.Ytodhhmjilnfecaa
set_option maxRecDepth 100000
set_option maxHeartbeats 0
noncomputable def grA (du : D) (v : SV) (m : Mem) : Conf := Conf.mk (SFrm.mk 23 (some (opsAt Try.prog 23 [1, 0], [2, 3, 4, 5, 6])) none [Item.code (cAt Try.prog 23 [1, 1])] (putS (mkJ 0 [(1, .dat du), (4, .ptr 0 0)] 0 105) (some 16) v)) []
 (m ++ [(0, .cells 28 [.nils, .nils, .nils, .nils, .nils, .lb false])])
noncomputable def ctGr : Ctrs := [(54, vCtr ((rdD.two rdBool).sp spHasB)), (57, lCtr (spUna 3))]
section
variable (k : Int) (du p a b c x y : D) (fz : Bool)
theorem grE_go : exec Try.prog [] 200 (grA du (.tup [.nilp, .int .i64 k]) []) =
 Tree.br (k != 0)
 (.ret (SV.tup [.agg [.nils, .nils, .nils, .nils, .nils, .lb false], .nils, .int .i64 k]))
 (.all fun hs => Tree.stuck) := by kernel_rfl

theorem grO_go : 
 let z1 := (D.sub p (Int.toNat (↑(D.len du) : Int)) (Int.toNat (↑(D.len du) : Int) + (D.len p - Int.toNat (↑(D.len du) : Int))))
 exec Try.prog ctGr 300 (grA du okV (okM p a b c x y fz)) =
 Tree.br false (.ret (SV.tup [.agg [.nils, .nils, .nils, .nils, .nils, .lb false], .nils, .int .i64 0])) (.all fun hs => .br (decide ((↑(D.len du) : Int) > (↑(D.len p) : Int))) (.need (decide ((↑(D.len du) : Int) >
 (↑(D.len p) : Int)) = true) (.need (decide ((↑(D.len du) : Int) > (↑(D.len p) : Int)) = true) (.need (decide ((↑(D.len du) : Int) > (↑(D.len p) : Int)) = true) (.need (decide ((↑(D.len du) : Int) > (↑(D.len p) : Int)) = true)
 (.need (decide ((↑(D.len du) : Int) > (↑(D.len p) : Int)) = true) (.need (decide ((↑(D.len du) : Int) > (↑(D.len p) : Int)) = true) (.need (decide ((↑(D.len du) : Int) > (↑(D.len p) : Int)) = true) (.need
 (decide ((↑(D.len du) : Int) > (↑(D.len p) : Int)) = true) (.need (decide ((↑(D.len du) : Int) > (↑(D.len p) : Int)) = true) (.ret (SV.tup [.agg [.nils, .nils, .nils, .nils, .nils, .lb false], .nils, .int .i64 27])))))))))))
 (.need (decide ((↑(D.len du) : Int) > (↑(D.len p) : Int)) = false) (.need (decide ((↑(D.len du) : Int) > (↑(D.len p) : Int)) = false) (.need (decide ((↑(D.len du) : Int) > (↑(D.len p) : Int)) = false)
 (.need (decide ((↑(D.len du) : Int) > (↑(D.len p) : Int)) = false) (.need (decide ((↑(D.len du) : Int) > (↑(D.len p) : Int)) = false) (.need (decide ((↑(D.len du) : Int) > (↑(D.len p) : Int)) = false)
 (.need (decide ((↑(D.len du) : Int) > (↑(D.len p) : Int)) = false) (.need (0 ≤ (↑(D.len du) : Int) ∧ (↑(D.len du) : Int) ≤ (↑(D.len p) : Int) ∧ D.Fits p 1) (.need (decide ((↑(D.len du) : Int) > (↑(D.len p) : Int)) = false)
 (.need (D.sz p = 1 ∧ Int.toNat (↑(D.len du) : Int) + (D.len p - Int.toNat (↑(D.len du) : Int)) ≤ D.len p) (.need (D.Is Bool z1 ∧ D.len z1 ≤ 1048576) (.need (decide ((↑(D.len du) : Int) > (↑(D.len p) : Int)) = false)
 (.br (List.any (D.to Bool z1) fun y => decide (true = y)) (.ret (SV.tup [.agg [.nils, .nils, .nils, .nils, .nils, .lb false], .nils, .int .i64 27])) (.leaf (Conf.mk (SFrm.mk 23 none none [Item.inLoop (cAt Try.prog 23 [1, 1, 1, 1, 1, 0, 1, 0, 0]), Item.inBlock 0, Item.code
 (cAt Try.prog 23 [1, 1, 1, 1, 1, 1])] (mkJ 0 [(4, .ptr 0 0), (7, .ptr 1 0), (9, .ptr 2 0), (44, .dat du), (45, .int .i64 (↑(D.len du) : Int)), (46, .int .i64 0)] 0 105)) [] [(0, OBlk.cells 28 [.nils, .nils, .nils, .nils, .nils, .lb false]),
 (1, OBlk.cells 91 [.vec 3, .vec 4, .vec 5, .vec 6, .vec 7, .vec 8, .bool fz]), (2, OBlk.cells 3 [.int .i64 (↑(D.len du) : Int)]), (3, OBlk.arr 4 p), (4, OBlk.arr 3 a), (5, OBlk.arr 31 b), (6, OBlk.arr 108 c),
 (7, OBlk.arr 3 x), (8, OBlk.arr 3 y)])))))))))))))))) := by
 intros; kernel_rfl

end
end Go.Proofs.Ytodhhmjilnfecaa
end
section
open Go Go.Proofs Sx
namespace Go.Proofs.Ytodhhmjilnfecaa
set_option maxRecDepth 100000
set_option maxHeartbeats 0
noncomputable def grL (du p a b c x y : D) (fz : Bool) (z : Int) : Conf := Conf.mk (SFrm.mk 23 none none [Item.inLoop (cAt Try.prog 23 [1, 1, 1, 1, 1, 0, 1, 0, 0]), Item.inBlock 0, Item.code (cAt Try.prog 23 [1, 1, 1, 1, 1, 1])] (mkJ 0 [(4, .ptr 0 0), (7, .ptr 1 0), (9, .ptr 2 0), (44, .dat du), (45, .int .i64 (du.len : Int)), (46, .int .i64 z)] 0 105)) [] [(0, OBlk.cells 28 [.nils, .nils, .nils, .nils, .nils, .lb false]), (1, OBlk.cells 91 [.vec 3, .vec 4, .vec 5, .vec 6, .vec 7, .vec 8, .bool fz]), (2, OBlk.cells 3 [.int .i64 (du.len : Int)]), (3, OBlk.arr 4 p), (4, OBlk.arr 3 a), (5, OBlk.arr 31 b), (6, OBlk.arr 108 c), (7, OBlk.arr 3 x), (8, OBlk.arr 3 y)]
section
variable (z : Int) (du p a b c x y : D) (fz : Bool)
theorem grl_go : goS Try.prog ctGr (fun _ => false) [(55, 8)] 300 (unroll (grL du p a b c x y fz z)) =
 Tree.br (decide (z < (↑(D.len du) : Int)))
 (.need (0 ≤ z ∧ z < (↑(D.len du) : Int) ∧ D.sz du = 1)
 (.need (D.HasCell du (Int.toNat z) 0 (FT.int .i64))
 (.br (D.getInt du (Int.toNat z) 0 != z)
 (.ret
 (SV.tup [.agg [.nils, .nils, .nils, .nils, .nils, .lb false], .nils, .int .i64 27]))
 (.leaf
 (Conf.mk
 (SFrm.mk 23 none none
 [Item.inLoop (cAt Try.prog 23 [1, 1, 1, 1, 1, 0, 1, 0, 0]), Item.inBlock 0,
 Item.code (cAt Try.prog 23 [1, 1, 1, 1, 1, 1])]
 (mkJ 0
 [(4, .ptr 0 0), (7, .ptr 1 0), (9, .ptr 2 0), (44, .dat du),
 (45, .int .i64 (↑(D.len du) : Int)),
 (46, .int .i64 (IntKind.wrap .i64 (z + 1)))]
 0 105))
 []
 [(0, OBlk.cells 28 [.nils, .nils, .nils, .nils, .nils, .lb false]),
 (1, OBlk.cells 91 [.vec 3, .vec 4, .vec 5, .vec 6, .vec 7, .vec 8, .bool fz]),
 (2, OBlk.cells 3 [.int .i64 (↑(D.len du) : Int)]), (3, OBlk.arr 4 p), (4, OBlk.arr 3 a),
 (5, OBlk.arr 31 b), (6, OBlk.arr 108 c), (7, OBlk.arr 3 x), (8, OBlk.arr 3 y)])))))
 (.all fun hs =>
 .need
 (0 ≤ (↑0 : Int) ∧ (↑0 : Int) ≤ (↑(D.len du) : Int) ∧ (↑(D.len du) : Int) ≤ (↑(D.len b) : Int) ∧ D.Fits b 3)
 (.leaf
 (Conf.mk
 (SFrm.mk 55 none none [Item.code (cAt Try.prog 55 [1, 0]), Item.code (cAt Try.prog 55 [1, 1])]
 (mkJ 1 [(0, .vec 0), (1, SV.fn 56 [] [.ptr 1 0])] 0 42))
 [SFrm.mk 23 (some (opsAt Try.prog 23 [1, 1, 1, 1, 1, 1, 1, 1, 0], [7, 8, 9])) (some 75)
 [Item.code (cAt Try.prog 23 [1, 1, 1, 1, 1, 1, 1, 1, 1])]
 (mkJ 0 [(4, .ptr 2 0), (7, .ptr 3 0), (9, .ptr 1 0), (69, .ptr 3 1)] 0 105)]
 [(0, OBlk.arr 108 c), (1, OBlk.cells 3 [.int .i64 (↑(D.len du) : Int)]),
 (2, OBlk.cells 28 [.nils, .nils, .nils, .nils, .nils, .lb false]),
 (3,
 OBlk.cells 91
 [.vec 4, .vec 5, .dat (D.sub b 0 (Int.toNat (↑(D.len du) : Int))), .vec 0, .vec 6, .vec 7,
 .bool fz]),
 (4, OBlk.arr 4 p), (5, OBlk.arr 3 a), (6, OBlk.arr 3 x), (7, OBlk.arr 3 y)]))) := by kernel_rfl

end
end Go.Proofs.Ytodhhmjilnfecaa
end
section
open Go Go.Proofs Sx
namespace Go.Proofs.Ytodhhmjilnfecaa
set_option maxRecDepth 100000
set_option maxHeartbeats 0
noncomputable def dfR : List SFrm := [SFrm.mk 23 (some (opsAt Try.prog 23 [1, 1, 1, 1, 1, 1, 1, 1, 0], [7, 8, 9])) (some 75) [Item.code (cAt Try.prog 23 [1, 1, 1, 1, 1, 1, 1, 1, 1])] (mkJ 0 [(4, .ptr 2 0), (7, .ptr 3 0), (9, .ptr 1 0), (69, .ptr 3 1)] 0 105)]
noncomputable def dfM (n : Int) (u c p a x y : D) (fz : Bool) : Mem := [(0, OBlk.arr 108 c), (1, OBlk.cells 3 [.int .i64 n]), (2, OBlk.cells 28 [.nils, .nils, .nils, .nils, .nils, .lb false]), (3, OBlk.cells 91 [.vec 4, .vec 5, .dat u, .vec 0, .vec 6, .vec 7, .bool fz]), (4, OBlk.arr 4 p), (5, OBlk.arr 3 a), (6, OBlk.arr 3 x), (7, OBlk.arr 3 y)]
noncomputable def dfA (n : Int) (u c p a x y : D) (fz : Bool) : Conf := Conf.mk (SFrm.mk 55 none none [Item.code (cAt Try.prog 55 [1, 0]), Item.code (cAt Try.prog 55 [1, 1])] (mkJ 1 [(0, .vec 0), (1, SV.fn 56 [] [.ptr 1 0])] 0 42)) dfR (dfM n u c p a x y fz)
section
variable (n : Int) (u p a c x y : D) (fz : Bool)
theorem df_in : goS Try.prog ctGr (fun _ => false) [(91, 5)] 300 (dfA n u c p a x y fz) =
 Tree.leaf
 (Conf.mk
 (SFrm.mk 91 none none
 [Item.inLoop (cAt Try.prog 91 [1, 0, 1, 0, 0]), Item.inBlock 0, Item.code (cAt Try.prog 91 [1, 1])]
 (mkJ 2
 [(0, .vec 0), (1, SV.fn 56 [] [.ptr 1 0]), (7, .int .i64 (↑(D.len c) : Int)),
 (8, .int .i64 0)]
 0 19))
 [SFrm.mk 55 (some (opsAt Try.prog 55 [1, 0], [3])) (some 10) [Item.code (cAt Try.prog 55 [1, 1])]
 (mkJ 1 [(0, .vec 0), (1, SV.fn 56 [] [.ptr 1 0]), (8, .vec 0), (9, SV.fn 56 [] [.ptr 1 0])] 0 42),
 SFrm.mk 23 (some (opsAt Try.prog 23 [1, 1, 1, 1, 1, 1, 1, 1, 0], [7, 8, 9])) (some 75)
 [Item.code (cAt Try.prog 23 [1, 1, 1, 1, 1, 1, 1, 1, 1])]
 (mkJ 0 [(4, .ptr 2 0), (7, .ptr 3 0), (9, .ptr 1 0), (69, .ptr 3 1)] 0 105)]
 [(0, OBlk.arr 108 c), (1, OBlk.cells 3 [.int .i64 n]),
 (2, OBlk.cells 28 [.nils, .nils, .nils, .nils, .nils, .lb false]),
 (3, OBlk.cells 91 [.vec 4, .vec 5, .dat u, .vec 0, .vec 6, .vec 7, .bool fz]), (4, OBlk.arr 4 p),
 (5, OBlk.arr 3 a), (6, OBlk.arr 3 x), (7, OBlk.arr 3 y)]) := by kernel_rfl

end
end Go.Proofs.Ytodhhmjilnfecaa
end
section
open Go Go.Proofs Sx
namespace Go.Proofs.Ytodhhmjilnfecaa
set_option maxRecDepth 100000
set_option maxHeartbeats 0
noncomputable def dxL (n : Int) (u c p a x y : D) (fz : Bool) (z : Int) : Conf := Conf.mk (SFrm.mk 91 none none [Item.inLoop (cAt Try.prog 91 [1, 0, 1, 0, 0]), Item.inBlock 0, Item.code (cAt Try.prog 91 [1, 1])] (mkJ 2 [(0, .vec 0), (1, SV.fn 56 [] [.ptr 1 0]), (7, .int .i64 (c.len : Int)), (8, .int .i64 z)] 0 19))
 (SFrm.mk 55 (some (opsAt Try.prog 55 [1, 0], [3])) (some 10) [Item.code (cAt Try.prog 55 [1, 1])] (mkJ 1 [(0, .vec 0), (1, SV.fn 56 [] [.ptr 1 0]), (8, .vec 0), (9, SV.fn 56 [] [.ptr 1 0])] 0 42) :: dfR) (dfM n u c p a x y fz)
section
variable (n z : Int) (u p a c x y : D) (fz : Bool)
theorem dx_go : 
 let z1 : Tree := (.all fun hs => .need (D.Is Bool p ∧ 0 ≤ n ∧ n ≤ (↑(D.len p) : Int) ∧ D.len p ≤ 1048576) (.leaf (Conf.mk (SFrm.mk 53 none none [Item.code (cAt Try.prog 53 [0]), Item.code (cAt Try.prog 53 [1])] (mkJ 1 [(0, .vec 0), (1, SV.fn 46 [.ptr 1 0] [])] 0 16)) [SFrm.mk 23 (some (opsAt Try.prog 23 [1, 1, 1, 1, 1, 1, 1, 1, 1, 1, 1, 0], [])) (some 99) [Item.code (cAt Try.prog 23 [1, 1, 1, 1, 1, 1, 1, 1, 1, 1, 1, 1])] (mkJ 0 [(4, .ptr 2 0), (7, .ptr 1 0), (13, .vec 0)] 0 105)] [(0, OBlk.arr 3 (D.slc (D.hd (hs 5 0)) 1 (List.map (fun n => [D.int .i64 n]) (unackN (D.to Bool p) (Int.toNat n))))), (1, OBlk.cells 91 [.vec 3, .vec 4, .dat u, .vec 5, .nils, .nils, .lb false]), (2, OBlk.cells 28 [.nils, .nils, .nils, .nils, .nils, .lb false]), (3, OBlk.arr 4 p), (4, OBlk.arr 3 a), (5, OBlk.arr 108 c)])))
 let z2 := (mkJ 0 [(4, .ptr 2 0), (7, .ptr 3 0), (9, .ptr 1 0), (69, .ptr 3 1)] 0 105)
 goS Try.prog ctGr (fun _ => false) [(53, 6)] 300 (unroll (dxL n u c p a x y fz z)) =
 Tree.br (decide (z < (↑(D.len c) : Int))) (.need (0 ≤ z ∧ z < (↑(D.len c) : Int) ∧ D.sz c = 2) (.need (D.HasCells c (Int.toNat z) 0 [FT.int .i64, FT.int .i64] ∧ D.sz c = 2) (.br (decide (D.getInt c (Int.toNat z) 1 ≥ n))
 (.br (decide (z = Int.neg 1)) z1 (.leaf (Conf.mk (SFrm.mk 55 none none [Item.inLoop (cAt Try.prog 55 [1, 1, 1, 0, 1, 0, 0]), Item.inBlock 0, Item.code (cAt Try.prog 55 [1, 1, 1, 1])] (mkJ 1 [(0, .vec 0),
 (1, SV.fn 56 [] [.ptr 1 0]), (5, .int .i64 z), (6, .int .i64 (IntKind.wrap .i64 (z + 1)))] 0 42)) [SFrm.mk 23 (some (opsAt Try.prog 23 [1, 1, 1, 1, 1, 1, 1, 1, 0], [7, 8, 9])) (some 75) [Item.code (cAt Try.prog 23 [1, 1, 1, 1, 1, 1, 1, 1, 1])] z2] [(0, OBlk.arr 108 c),
 (1, OBlk.cells 3 [.int .i64 n]), (2, OBlk.cells 28 [.nils, .nils, .nils, .nils, .nils, .lb false]), (3, OBlk.cells 91 [.vec 4, .vec 5, .dat u, .vec 0, .vec 6, .vec 7, .bool fz]), (4, OBlk.arr 4 p), (5, OBlk.arr 3 a),
 (6, OBlk.arr 3 x), (7, OBlk.arr 3 y)]))) (.leaf (Conf.mk (SFrm.mk 91 none none [Item.inLoop (cAt Try.prog 91 [1, 0, 1, 0, 0]), Item.inBlock 0, Item.code (cAt Try.prog 91 [1, 1])] (mkJ 2 [(0, .vec 0), (1, SV.fn 56 [] [.ptr 1 0]),
 (7, .int .i64 (↑(D.len c) : Int)), (8, .int .i64 (IntKind.wrap .i64 (z + 1)))] 0 19)) [SFrm.mk 55 (some (opsAt Try.prog 55 [1, 0], [3])) (some 10) [Item.code (cAt Try.prog 55 [1, 1])] (mkJ 1 [(0, .vec 0),
 (1, SV.fn 56 [] [.ptr 1 0]), (8, .vec 0), (9, SV.fn 56 [] [.ptr 1 0])] 0 42), SFrm.mk 23 (some (opsAt Try.prog 23 [1, 1, 1, 1, 1, 1, 1, 1, 0], [7, 8, 9])) (some 75) [Item.code (cAt Try.prog 23 [1, 1, 1, 1, 1, 1, 1, 1, 1])] z2] [(0, OBlk.arr 108 c),
 (1, OBlk.cells 3 [.int .i64 n]), (2, OBlk.cells 28 [.nils, .nils, .nils, .nils, .nils, .lb false]), (3, OBlk.cells 91 [.vec 4, .vec 5, .dat u, .vec 0, .vec 6, .vec 7, .bool fz]), (4, OBlk.arr 4 p), (5, OBlk.arr 3 a),
 (6, OBlk.arr 3 x), (7, OBlk.arr 3 y)]))))) (.br true z1 (.leaf (Conf.mk (SFrm.mk 55 none none [Item.inLoop (cAt Try.prog 55 [1, 1, 1, 0, 1, 0, 0]), Item.inBlock 0, Item.code (cAt Try.prog 55 [1, 1, 1, 1])]
 (mkJ 1 [(0, .vec 0), (1, SV.fn 56 [] [.ptr 1 0]), (5, .int .i64 (Int.neg 1)), (6, .int .i64 (IntKind.wrap .i64 (Int.neg 1 + 1)))] 0 42)) [SFrm.mk 23 (some (opsAt Try.prog 23 [1, 1, 1, 1, 1, 1, 1, 1, 0], [7, 8, 9]))
 (some 75) [Item.code (cAt Try.prog 23 [1, 1, 1, 1, 1, 1, 1, 1, 1])] z2] [(0, OBlk.arr 108 c), (1, OBlk.cells 3 [.int .i64 n]), (2, OBlk.cells 28 [.nils, .nils, .nils, .nils, .nils, .lb false]), (3, OBlk.cells 91 [.vec 4, .vec 5, .dat u, .vec 0, .vec 6, .vec 7, .bool fz]),
 (4, OBlk.arr 4 p), (5, OBlk.arr 3 a), (6, OBlk.arr 3 x), (7, OBlk.arr 3 y)]))) := by
 intros; kernel_rfl

end
end Go.Proofs.Ytodhhmjilnfecaa
end
section
open Go Go.Proofs Sx
namespace Go.Proofs.Ytodhhmjilnfecaa
set_option maxRecDepth 100000
set_option maxHeartbeats 0
noncomputable def dfL (n : Int) (u c p a x y : D) (fz : Bool) (i j : Int) : Conf := Conf.mk (SFrm.mk 55 none none [Item.inLoop (cAt Try.prog 55 [1, 1, 1, 0, 1, 0, 0]), Item.inBlock 0, Item.code (cAt Try.prog 55 [1, 1, 1, 1])] (mkJ 1 [(0, .vec 0), (1, SV.fn 56 [] [.ptr 1 0]), (5, .int .i64 i), (6, .int .i64 j)] 0 42)) dfR (dfM n u c p a x y fz)
section
variable (n i j : Int) (u p a c x y : D) (fz : Bool)
theorem df_go : goS Try.prog ctGr (fun _ => false) [(55, 36)] 300 (unroll (dfL n u c p a x y fz i j)) =
 Tree.br (decide (j < (↑(D.len c) : Int)))
 (.need (0 ≤ j ∧ j < (↑(D.len c) : Int) ∧ D.sz c = 2)
 (.need (D.HasCells c (Int.toNat j) 0 [FT.int .i64, FT.int .i64] ∧ D.sz c = 2)
 (.br (!decide (D.getInt c (Int.toNat j) 1 ≥ n))
 (.need (0 ≤ i ∧ i < (↑(D.len c) : Int) ∧ D.sz c = 2)
 (.need (Int.toNat i < D.len c ∧ 2 ≤ D.sz c ∧ D.sz c = 2)
 (.leaf
 (Conf.mk
 (SFrm.mk 55 none none
 [Item.inLoop (cAt Try.prog 55 [1, 1, 1, 0, 1, 0, 0]), Item.inBlock 0,
 Item.code (cAt Try.prog 55 [1, 1, 1, 1])]
 (mkJ 1
 [(0, .vec 0), (1, SV.fn 56 [] [.ptr 1 0]),
 (5, .int .i64 (IntKind.wrap .i64 (i + 1))),
 (6, .int .i64 (IntKind.wrap .i64 (j + 1)))]
 0 42))
 [SFrm.mk 23 (some (opsAt Try.prog 23 [1, 1, 1, 1, 1, 1, 1, 1, 0], [7, 8, 9])) (some 75)
 [Item.code (cAt Try.prog 23 [1, 1, 1, 1, 1, 1, 1, 1, 1])]
 (mkJ 0 [(4, .ptr 2 0), (7, .ptr 3 0), (9, .ptr 1 0), (69, .ptr 3 1)] 0 105)]
 [(0,
 OBlk.arr 108
 (D.setCells c (Int.toNat i) 0
 [D.int .i64 (D.getInt c (Int.toNat j) 0),
 D.int .i64 (D.getInt c (Int.toNat j) 1)])),
 (1, OBlk.cells 3 [.int .i64 n]),
 (2, OBlk.cells 28 [.nils, .nils, .nils, .nils, .nils, .lb false]),
 (3, OBlk.cells 91 [.vec 4, .vec 5, .dat u, .vec 0, .vec 6, .vec 7, .bool fz]),
 (4, OBlk.arr 4 p), (5, OBlk.arr 3 a), (6, OBlk.arr 3 x), (7, OBlk.arr 3 y)]))))
 (.leaf
 (Conf.mk
 (SFrm.mk 55 none none
 [Item.inLoop (cAt Try.prog 55 [1, 1, 1, 0, 1, 0, 0]), Item.inBlock 0,
 Item.code (cAt Try.prog 55 [1, 1, 1, 1])]
 (mkJ 1
 [(0, .vec 0), (1, SV.fn 56 [] [.ptr 1 0]), (5, .int .i64 i),
 (6, .int .i64 (IntKind.wrap .i64 (j + 1)))]
 0 42))
 [SFrm.mk 23 (some (opsAt Try.prog 23 [1, 1, 1, 1, 1, 1, 1, 1, 0], [7, 8, 9])) (some 75)
 [Item.code (cAt Try.prog 23 [1, 1, 1, 1, 1, 1, 1, 1, 1])]
 (mkJ 0 [(4, .ptr 2 0), (7, .ptr 3 0), (9, .ptr 1 0), (69, .ptr 3 1)] 0 105)]
 [(0, OBlk.arr 108 c), (1, OBlk.cells 3 [.int .i64 n]),
 (2, OBlk.cells 28 [.nils, .nils, .nils, .nils, .nils, .lb false]),
 (3, OBlk.cells 91 [.vec 4, .vec 5, .dat u, .vec 0, .vec 6, .vec 7, .bool fz]),
 (4, OBlk.arr 4 p), (5, OBlk.arr 3 a), (6, OBlk.arr 3 x), (7, OBlk.arr 3 y)])))))
 (.leaf
 (Conf.mk
 (SFrm.mk 55 none none [Item.code (cAt Try.prog 55 [1, 1, 1, 1, 0]), Item.code (cAt Try.prog 55 [1, 1, 1, 1, 1])]
 (mkJ 1 [(0, .vec 0), (5, .int .i64 i)] 0 42))
 [SFrm.mk 23 (some (opsAt Try.prog 23 [1, 1, 1, 1, 1, 1, 1, 1, 0], [7, 8, 9])) (some 75)
 [Item.code (cAt Try.prog 23 [1, 1, 1, 1, 1, 1, 1, 1, 1])]
 (mkJ 0 [(4, .ptr 1 0), (7, .ptr 2 0), (9, .ptr 3 0), (69, .ptr 2 1)] 0 105)]
 [(0, OBlk.arr 108 c), (1, OBlk.cells 28 [.nils, .nils, .nils, .nils, .nils, .lb false]),
 (2, OBlk.cells 91 [.vec 4, .vec 5, .dat u, .vec 0, .vec 6, .vec 7, .bool fz]),
 (3, OBlk.cells 3 [.int .i64 n]), (4, OBlk.arr 4 p), (5, OBlk.arr 3 a), (6, OBlk.arr 3 x),
 (7, OBlk.arr 3 y)])) := by kernel_rfl

end
end Go.Proofs.Ytodhhmjilnfecaa
end
section
open Go Go.Proofs Sx
namespace Go.Proofs.Ytodhhmjilnfecaa
set_option maxRecDepth 100000
set_option maxHeartbeats 0
noncomputable def dfE (n : Int) (u c p a x y : D) (fz : Bool) (i : Int) : Conf := Conf.mk (SFrm.mk 55 none none [Item.code (cAt Try.prog 55 [1, 1, 1, 1, 0]), Item.code (cAt Try.prog 55 [1, 1, 1, 1, 1])] (mkJ 1 [(0, .vec 0), (5, .int .i64 i)] 0 42)) [SFrm.mk 23 (some (opsAt Try.prog 23 [1, 1, 1, 1, 1, 1, 1, 1, 0], [7, 8, 9])) (some 75) [Item.code (cAt Try.prog 23 [1, 1, 1, 1, 1, 1, 1, 1, 1])] (mkJ 0 [(4, .ptr 1 0), (7, .ptr 2 0), (9, .ptr 3 0), (69, .ptr 2 1)] 0 105)]
 [(0, OBlk.arr 108 c), (1, OBlk.cells 28 [.nils, .nils, .nils, .nils, .nils, .lb false]), (2, OBlk.cells 91 [.vec 4, .vec 5, .dat u, .vec 0, .vec 6, .vec 7, .bool fz]), (3, OBlk.cells 3 [.int .i64 n]), (4, OBlk.arr 4 p), (5, OBlk.arr 3 a), (6, OBlk.arr 3 x), (7, OBlk.arr 3 y)]
section
variable (n i : Int) (u p a c x y : D) (fz : Bool)
theorem ds_go : goS Try.prog ctGr (fun _ => false) [(53, 6)] 300 ((shiftC 2000 (dfE n u c p a x y fz i)).getD (dfE n u c p a x y fz i)) =
 Tree.need (0 ≤ i ∧ i ≤ (↑(D.len c) : Int) ∧ D.Fits c 2)
 (.need (2 = 2 ∧ D.sz c = 2 ∧ Int.toNat i + (D.len c - Int.toNat i) ≤ D.len c ∧ D.len c ≤ 9223372036854775807)
 (.need
 (0 ≤ i ∧
 i ≤
 (↑(D.len
 (D.slc (D.hd c) (D.sz c)
 (List.append (List.take (Int.toNat i) (D.rows c))
 (List.append (List.replicate (D.len c - Int.toNat i) [D.int .i64 0, D.int .i64 0])
 (List.drop (Int.toNat i + (D.len c - Int.toNat i)) (D.rows c)))))) :
 Int) ∧
 D.Fits
 (D.slc (D.hd c) (D.sz c)
 (List.append (List.take (Int.toNat i) (D.rows c))
 (List.append (List.replicate (D.len c - Int.toNat i) [D.int .i64 0, D.int .i64 0])
 (List.drop (Int.toNat i + (D.len c - Int.toNat i)) (D.rows c)))))
 2)
 (.all fun hs =>
 .need (D.Is Bool p ∧ 0 ≤ n ∧ n ≤ (↑(D.len p) : Int) ∧ D.len p ≤ 1048576)
 (.leaf
 (Conf.mk
 (SFrm.mk 53 none none [Item.code (cAt Try.prog 53 [0]), Item.code (cAt Try.prog 53 [1])]
 (mkJ 1 [(0, .vec 0), (1, SV.fn 46 [.ptr 1 0] [])] 0 16))
 [SFrm.mk 23 (some (opsAt Try.prog 23 [1, 1, 1, 1, 1, 1, 1, 1, 1, 1, 1, 0], [])) (some 99)
 [Item.code (cAt Try.prog 23 [1, 1, 1, 1, 1, 1, 1, 1, 1, 1, 1, 1])]
 (mkJ 0 [(4, .ptr 2 0), (7, .ptr 1 0), (13, .vec 0)] 0 105)]
 [(0,
 OBlk.arr 3
 (D.slc (D.hd (hs 5 0)) 1
 (List.map (fun n => [D.int .i64 n]) (unackN (D.to Bool p) (Int.toNat n))))),
 (1, OBlk.cells 91 [.vec 3, .vec 4, .dat u, .vec 5, .nils, .nils, .lb false]),
 (2, OBlk.cells 28 [.nils, .nils, .nils, .nils, .nils, .lb false]), (3, OBlk.arr 4 p),
 (4, OBlk.arr 3 a),
 (5,
 OBlk.arr 108
 (D.slc
 (D.hd
 (D.slc (D.hd c) (D.sz c)
 (List.append (List.take (Int.toNat i) (D.rows c))
 (List.append
 (List.replicate (D.len c - Int.toNat i) [D.int .i64 0, D.int .i64 0])
 (List.drop (Int.toNat i + (D.len c - Int.toNat i)) (D.rows c))))))
 (D.sz
 (D.slc (D.hd c) (D.sz c)
 (List.append (List.take (Int.toNat i) (D.rows c))
 (List.append
 (List.replicate (D.len c - Int.toNat i) [D.int .i64 0, D.int .i64 0])
 (List.drop (Int.toNat i + (D.len c - Int.toNat i)) (D.rows c))))))
 (List.take (Int.toNat i)
 (D.rows
 (D.slc (D.hd c) (D.sz c)
 (List.append (List.take (Int.toNat i) (D.rows c))
 (List.append
 (List.replicate (D.len c - Int.toNat i) [D.int .i64 0, D.int .i64 0])
 (List.drop (Int.toNat i + (D.len c - Int.toNat i)) (D.rows c)))))))))]))))) := by kernel_rfl

end
end Go.Proofs.Ytodhhmjilnfecaa
end
section
open Go Go.Proofs Sx
namespace Go.Proofs.Ytodhhmjilnfecaa
set_option maxRecDepth 100000
set_option maxHeartbeats 0
noncomputable def eaR : List SFrm := [SFrm.mk 23 (some (opsAt Try.prog 23 [1, 1, 1, 1, 1, 1, 1, 1, 1, 1, 1, 0], [])) (some 99) [Item.code (cAt Try.prog 23 [1, 1, 1, 1, 1, 1, 1, 1, 1, 1, 1, 1])] (mkJ 0 [(4, .ptr 2 0), (7, .ptr 1 0), (13, .vec 0)] 0 105)]
noncomputable def eaM (l u p a q : D) : Mem := [(0, OBlk.arr 3 l), (1, OBlk.cells 91 [.vec 3, .vec 4, .dat u, .vec 5, .nils, .nils, .lb false]), (2, OBlk.cells 28 [.nils, .nils, .nils, .nils, .nils, .lb false]), (3, OBlk.arr 4 p), (4, OBlk.arr 3 a), (5, OBlk.arr 108 q)]
noncomputable def eaA (l u p a q : D) : Conf := Conf.mk (SFrm.mk 53 none none [Item.code (cAt Try.prog 53 [0]), Item.code (cAt Try.prog 53 [1])] (mkJ 1 [(0, .vec 0), (1, SV.fn 46 [.ptr 1 0] [])] 0 16)) eaR (eaM l u p a q)
section
variable (u p a l q : D)
theorem ea_in : goS Try.prog ctGr (fun _ => false) [(46, 1000)] 300 (eaA l u p a q) =
 Tree.leaf
 (Conf.mk
 (SFrm.mk 53 none none [Item.inLoop (cAt Try.prog 53 [1, 0, 0]), Item.inBlock 0]
 (mkJ 1
 [(1, SV.fn 46 [.ptr 0 0] []), (6, .vec 1), (7, .int .i64 (↑(D.len l) : Int)),
 (8, .int .i64 0)]
 0 16))
 [SFrm.mk 23 (some (opsAt Try.prog 23 [1, 1, 1, 1, 1, 1, 1, 1, 1, 1, 1, 0], [])) (some 99)
 [Item.code (cAt Try.prog 23 [1, 1, 1, 1, 1, 1, 1, 1, 1, 1, 1, 1])]
 (mkJ 0 [(4, .ptr 2 0), (7, .ptr 0 0), (13, .vec 1)] 0 105)]
 [(0, OBlk.cells 91 [.vec 3, .vec 4, .dat u, .vec 5, .nils, .nils, .lb false]), (1, OBlk.arr 3 l),
 (2, OBlk.cells 28 [.nils, .nils, .nils, .nils, .nils, .lb false]), (3, OBlk.arr 4 p),
 (4, OBlk.arr 3 a), (5, OBlk.arr 108 q)]) := by kernel_rfl

end
end Go.Proofs.Ytodhhmjilnfecaa
end
section
open Go Go.Proofs Sx
namespace Go.Proofs.Ytodhhmjilnfecaa
set_option maxRecDepth 100000
set_option maxHeartbeats 0
noncomputable def eaL (l u p a q : D) (z : Int) : Conf := Conf.mk (SFrm.mk 53 none none [Item.inLoop (cAt Try.prog 53 [1, 0, 0]), Item.inBlock 0] (mkJ 1 [(1, SV.fn 46 [.ptr 0 0] []), (6, .vec 1), (7, .int .i64 (l.len : Int)), (8, .int .i64 z)] 0 16))
 [SFrm.mk 23 (some (opsAt Try.prog 23 [1, 1, 1, 1, 1, 1, 1, 1, 1, 1, 1, 0], [])) (some 99) [Item.code (cAt Try.prog 23 [1, 1, 1, 1, 1, 1, 1, 1, 1, 1, 1, 1])] (mkJ 0 [(4, .ptr 2 0), (7, .ptr 0 0), (13, .vec 1)] 0 105)]
 [(0, OBlk.cells 91 [.vec 3, .vec 4, .dat u, .vec 5, .nils, .nils, .lb false]), (1, OBlk.arr 3 l), (2, OBlk.cells 28 [.nils, .nils, .nils, .nils, .nils, .lb false]), (3, OBlk.arr 4 p), (4, OBlk.arr 3 a), (5, OBlk.arr 108 q)]
section
variable (z : Int) (u p a l q : D)
theorem ea_go : goS Try.prog ctGr (fun _ => false) [(46, 1000)] 300 (unroll (eaL l u p a q z)) =
 Tree.br (decide (z < (↑(D.len l) : Int)))
 (.need (0 ≤ z ∧ z < (↑(D.len l) : Int) ∧ D.sz l = 1)
 (.need (D.HasCell l (Int.toNat z) 0 (FT.int .i64) ∧ D.sz l = 1)
 (.all fun hs =>
 .need
 (D.sz q = 2 ∧
 D.Fits (D.slc (D.hd (hs 0 0)) 2 [[D.int .i64 1, D.int .i64 (D.getInt l (Int.toNat z) 0)]]) 2 ∧
 (D.len q +
 D.len
 (D.slc (D.hd (hs 0 0)) 2
 [[D.int .i64 1, D.int .i64 (D.getInt l (Int.toNat z) 0)]])) *
 16 ≤
 140737488355328 ∧
 D.len q +
 D.len
 (D.slc (D.hd (hs 0 0)) 2
 [[D.int .i64 1, D.int .i64 (D.getInt l (Int.toNat z) 0)]]) ≤
 9223372036854775807)
 (.all fun hs_1 =>
 .need (0 ≤ D.getInt l (Int.toNat z) 0 ∧ D.getInt l (Int.toNat z) 0 < (↑(D.len p) : Int) ∧ D.sz p = 1)
 (.need (Int.toNat (D.getInt l (Int.toNat z) 0) < D.len p ∧ 1 ≤ D.sz p ∧ D.sz p = 1)
 (.leaf
 (Conf.mk
 (SFrm.mk 53 none none [Item.inLoop (cAt Try.prog 53 [1, 0, 0]), Item.inBlock 0]
 (mkJ 1
 [(1, SV.fn 46 [.ptr 0 0] []), (6, .vec 1), (7, .int .i64 (↑(D.len l) : Int)),
 (8, .int .i64 (IntKind.wrap .i64 (z + 1)))]
 0 16))
 [SFrm.mk 23 (some (opsAt Try.prog 23 [1, 1, 1, 1, 1, 1, 1, 1, 1, 1, 1, 0], [])) (some 99)
 [Item.code (cAt Try.prog 23 [1, 1, 1, 1, 1, 1, 1, 1, 1, 1, 1, 1])]
 (mkJ 0 [(4, .ptr 2 0), (7, .ptr 0 0), (13, .vec 1)] 0 105)]
 [(0, OBlk.cells 91 [.vec 3, .vec 4, .dat u, .vec 5, .nils, .nils, .lb false]),
 (1, OBlk.arr 3 l), (2, OBlk.cells 28 [.nils, .nils, .nils, .nils, .nils, .lb false]),
 (3, OBlk.arr 4 (D.setCells p (Int.toNat (D.getInt l (Int.toNat z) 0)) 0 [D.bool true])),
 (4, OBlk.arr 3 a),
 (5,
 OBlk.arr 108
 (D.slc (D.hd (hs_1 0 0)) 2
 (List.append (D.rows q)
 (D.rows
 (D.slc (D.hd (hs 0 0)) 2
 [[D.int .i64 1, D.int .i64 (D.getInt l (Int.toNat z) 0)]])))))])))))))
 (.ret
 (SV.tup [.agg [.dat a, .dat u, .dat q, .nils, .nils, .lb false], .dat l, .int .i64 0])) := by kernel_rfl

end
end Go.Proofs.Ytodhhmjilnfecaa
end
section
open Go Go.Proofs Sx
namespace Go.Proofs.Ytodhhmjilnfecaa
set_option maxRecDepth 100000
set_option maxHeartbeats 0
theorem ctGrOk : Ctrs.Ok Try.prog ctGr := by
  intro x hx
  simp only [ctGr, List.mem_cons, List.not_mem_nil, or_false] at hx
  rcases hx with rfl | rfl
  · exact vCtr_ok lawHasB
  · exact ctrUna
theorem ea_loop {H : HV} {w : World} {l u p a q : D} {S : List Int} {W : List Wt} {Q : List Ev} {L : List Int} (ha : a.Is Int ∧ a.to Int = S) (hu : u.Is Wt ∧ u.to Wt = W) (hq : q.Is Ev ∧ q.to Ev = Q ∧ q.sz = 2) (hp : p.Is Bool)
    (hl : l.Is Int ∧ l.to Int = L) (hL : ∀ v, v ∈ L → 0 ≤ v ∧ v < (p.len : Int)) (hQ : Q.length ≤ 1048576) (hLl : L.length ≤ 1048576) :
    Runs Try.prog ⟨w, H⟩ (eaL l u p a q 0) (RetD w H fun ds => .tup [grSV ds ⟨⟨S, W, Q ++ L.map (Ev.mk 1)⟩, [], [], false⟩, .dat ((ds 5).like L), .int .i64 0]) := by
  have ll := D.Is.length (α := Int) l
  have pl0 := D.Is.length (α := Bool) p
  refine runs_loop (fun s : Nat × D × D => eaL l u s.2.1 a s.2.2 s.1) (fun s => s.1 ≤ L.length ∧ (s.2.1.Is Bool ∧ (s.2.1.to Bool).length = (p.to Bool).length) ∧ s.2.2.Is Ev ∧ s.2.2.to Ev = Q ++ (L.take s.1).map (Ev.mk 1) ∧ s.2.2.sz = 2) (fun s => L.length - s.1) (fun _ => rfl) ?_ (0, p, q) ⟨Nat.zero_le _, ⟨hp, rfl⟩, hq.1, by simp [hq.2.1], hq.2.2⟩
  rintro ⟨j, p', c⟩ ⟨hj, ⟨hp', hpl⟩, hc, hct, hcz⟩ ih
  simp only at hj hp' hpl hc hct hcz ih ⊢
  apply goS_sound ctGrOk (fun _ => false) [(46, 1000)] 300
  rw [ea_go]
  have pl := D.Is.length (α := Bool) p'
  have cl2 := D.Is.length (α := Ev) c
  rw [hct, List.length_append, List.length_map, List.length_take] at cl2
  refine ⟨fun hjc => ?_, fun hjc => ?_⟩
  · have hjc : j < L.length := by have := of_decide_eq_true hjc; rw [hl.2] at ll; omega
    have hjy : j < (l.to Int).length := by rw [hl.2]; exact hjc
    obtain ⟨c1, c2, c3⟩ := int_at hl.1 hjy
    have he : (l.to Int)[j] = L[j] := by simp only [hl.2]
    have hv := hL (L[j]) (List.getElem_mem hjc)
    have htk := List.take_succ_eq_append_getElem hjc
    rw [c3, he]
    generalize L[j] = v at *
    have hvi : v.toNat < (p'.to Bool).length := by omega
    have hz := hp'.size hvi
    have hset := set_full hp' hvi (xs := [D.bool true]) (x := true) rfl (ok_bool true) rfl
    refine ⟨c1, ⟨c2, c1.2.2⟩, fun hs => ⟨⟨hcz, .inr rfl, by simp only [len_slc, List.length_cons, List.length_nil]; omega, by simp only [len_slc, List.length_cons, List.length_nil]; omega⟩, fun hs1 => ⟨⟨hv.1, by omega, hz⟩, ⟨by omega, by rw [hz]; exact Nat.le_refl 1, hz⟩, ?_⟩⟩⟩
    have hap : (D.slc (hs1 0 0).hd 2 (List.append (D.rows c) (D.rows (D.slc (hs 0 0).hd 2 [[D.int IntKind.i64 1, D.int IntKind.i64 v]])))).Is Ev ∧ (D.slc (hs1 0 0).hd 2 (List.append (D.rows c) (D.rows (D.slc (hs 0 0).hd 2 [[D.int IntKind.i64 1, D.int IntKind.i64 v]])))).to Ev = c.to Ev ++ [⟨1, v⟩] :=
      is_of rfl ⟨fun r hr => by
        rcases List.mem_append.1 hr with h | h
        · exact (rows_of hc).1 r h
        · rw [List.mem_singleton.1 h]; exact ⟨_, _, rfl⟩, by simp only [append_list, List.map_append, (rows_of hc).2]; rfl⟩
    have := ih (j + 1, p'.setCells v.toNat 0 [D.bool true], _) ⟨hjc, ⟨hset.1, by rw [hset.2, List.length_set]; exact hpl⟩, hap.1, by
      rw [hap.2, hct, htk, List.map_append, List.append_assoc]; rfl, rfl⟩ (by simp only; omega)
    simp only at this
    rw [← wrap_succ hjc (by omega)] at this
    exact this
  · have : j = L.length := by have := of_decide_eq_false hjc; rw [hl.2] at ll; omega
    subst this
    rw [List.take_length] at hct
    exact ret_grLI (stands_gr (stands_dat ha.1 ha.2) (stands_dat hu.1 hu.2) (stands_dat hc hct) stands_nils stands_nils (fun _ => rfl) rfl) (stands_dat hl.1 hl.2) rfl
end Go.Proofs.Ytodhhmjilnfecaa
end
section
open Go Go.Proofs Sx
namespace Go.Proofs.Ytodhhmjilnfecaa
set_option maxRecDepth 100000
set_option maxHeartbeats 0
noncomputable def ctRX : Ctrs := [(31, ctrOf (rdGr.one.sp spCkG)), (42, ctrOf ((rdHi.two rdWt).sp spIssueH)), (43, oCtr (spCpd 3)), (49, oCtr (spWo 3)), (47, ctrOf ((rdD.two rdInt).sp spHas)), (48, ctrOf (rdHi.one.sp spCopy)),
 (50, ctrOf ((rdHi.two rdInt).sp spAckH)), (58, ctrOf ((rdHi.two rdInt).sp spAckd)), (34, ctrOf (rdInt.one.sp spFst)), (52, ctrOf ((rdD.two rdD).sp spInts)), (59, ctrOf ((rdHi.two rdD).sp spRest))]
section
variable (ha hb hc wt hd d : D) (fz : Bool) (v s n : Int)
theorem ris_in : exec Try.prog ctRX 300 (entry Try.prog 14 [.agg [.dat ha, .dat hb, .dat hc, .dat wt, .dat hd, .bool fz], .agg [.int .i64 v, .int .i64 s, .dat d]]) =
 Tree.need (GrD.Right (GrD.mk (HiD.mk ha hb hc) wt hd fz))
 (.br (openErr (GrD.gr (GrD.mk (HiD.mk ha hb hc) wt hd fz)) != 0)
 (.ret
 (SV.tup
 [.agg [.nils, .nils, .nils, .nils, .nils, .lb false], .int .i64 0,
 .int .i64 (openErr (GrD.gr (GrD.mk (HiD.mk ha hb hc) wt hd fz)))]))
 (.need (HiD.Right (HiD.mk ha hb hc) ∧ D.len hc ≤ 1000000 ∧ WtD.Ok (WtD.mk v s d))
 (.all fun hs =>
 .br (Prod.snd (Prod.snd (issueH (HiD.hist (HiD.mk ha hb hc)) (WtD.wt (WtD.mk v s d)))) != 0)
 (.ret
 (SV.tup
 [.agg [.nils, .nils, .nils, .nils, .nils, .lb false], .int .i64 0,
 .int .i64
 (Prod.snd (Prod.snd (issueH (HiD.hist (HiD.mk ha hb hc)) (WtD.wt (WtD.mk v s d)))))]))
 (.all fun hs_1 =>
 .need
 (D.Is Int wt ∧
 D.Is Int
 (D.slc (D.hd (hs_1 4 0)) 1
 [[D.int .i64
 (Prod.fst (Prod.snd (issueH (HiD.hist (HiD.mk ha hb hc)) (WtD.wt (WtD.mk v s d)))))]]) ∧
 D.len wt ≤ 1048576 ∧
 D.len
 (D.slc (D.hd (hs_1 4 0)) 1
 [[D.int .i64
 (Prod.fst (Prod.snd (issueH (HiD.hist (HiD.mk ha hb hc)) (WtD.wt (WtD.mk v s d)))))]]) ≤
 1048576)
 (.need (D.Is Int hd ∧ D.Is Int (D.slc none 0 []) ∧ D.len hd ≤ 1048576 ∧ 0 ≤ 1048576)
 (.ret
 (SV.tup
 [.agg
 [.dat
 (D.like (hs 0 0)
 (Hist.sizes (Prod.fst (issueH (HiD.hist (HiD.mk ha hb hc)) (WtD.wt (WtD.mk v s d)))))),
 .dat
 (D.like (hs 0 1)
 (Hist.writes (Prod.fst (issueH (HiD.hist (HiD.mk ha hb hc)) (WtD.wt (WtD.mk v s d)))))),
 .dat
 (D.like (hs 0 2)
 (Hist.events (Prod.fst (issueH (HiD.hist (HiD.mk ha hb hc)) (WtD.wt (WtD.mk v s d)))))),
 .dat
 (D.slc (D.hd (hs_1 5 0)) 1
 (List.map (fun n => [D.int .i64 n])
 (List.append (D.to Int wt)
 (D.to Int
 (D.slc (D.hd (hs_1 4 0)) 1
 [[D.int .i64
 (Prod.fst
 (Prod.snd
 (issueH (HiD.hist (HiD.mk ha hb hc)) (WtD.wt (WtD.mk v s d)))))]]))))),
 .dat
 (D.slc (D.hd (hs_1 8 0)) 1
 (List.map (fun n => [D.int .i64 n])
 (List.append (D.to Int hd) (D.to Int (D.slc none 0 []))))),
 .bool fz],
 .int .i64
 (Prod.fst (Prod.snd (issueH (HiD.hist (HiD.mk ha hb hc)) (WtD.wt (WtD.mk v s d))))),
 .int .i64 0]))))))) := by kernel_rfl

theorem rdu_in : exec Try.prog ctRX 300 (entry Try.prog 16 [.agg [.dat ha, .dat hb, .dat hc, .dat wt, .dat hd, .bool fz], .int .i64 n]) =
 Tree.need (GrD.Right (GrD.mk (HiD.mk ha hb hc) wt hd fz))
 (.br (openErr (GrD.gr (GrD.mk (HiD.mk ha hb hc) wt hd fz)) != 0)
 (.ret
 (SV.tup
 [.agg [.nils, .nils, .nils, .nils, .nils, .lb false], .nils,
 .int .i64 (openErr (GrD.gr (GrD.mk (HiD.mk ha hb hc) wt hd fz)))]))
 (.need (D.Is Int wt ∧ D.len wt ≤ 1048576)
 (.br (!List.contains (D.to Int wt) n)
 (.ret
 (SV.tup [.agg [.nils, .nils, .nils, .nils, .nils, .lb false], .nils, .int .i64 7]))
 (.all fun hs =>
 .need (HiD.Right (HiD.mk ha hb hc))
 (.need (D.Is Int wt ∧ D.len wt ≤ 1048576)
 (.need (D.Is Int hd ∧ D.Is Int (D.slc none 0 []) ∧ D.len hd ≤ 1048576 ∧ 0 ≤ 1048576)
 (.br fz
 (.all fun hs_1 =>
 .need
 (D.Is Int hd ∧
 D.Is Int (D.slc (D.hd (hs_1 0 0)) 1 [[D.int .i64 n]]) ∧
 D.len hd ≤ 1048576 ∧ D.len (D.slc (D.hd (hs_1 0 0)) 1 [[D.int .i64 n]]) ≤ 1048576)
 (.all fun hs_2 =>
 .ret
 (SV.tup
 [.agg
 [.dat (D.like (hs 2 0) (D.to Int ha)), .dat (D.like (hs 2 1) (D.to Wt hb)),
 .dat (D.like (hs 2 2) (D.to Ev hc)),
 .dat
 (D.slc (D.hd (hs 6 0)) 1
 (List.map (fun n => [D.int .i64 n]) (withoutI (D.to Int wt) n))),
 .dat
 (D.slc (D.hd (hs_2 0 0)) 1
 (List.map (fun n => [D.int .i64 n])
 (List.append (D.to Int hd)
 (D.to Int (D.slc (D.hd (hs_1 0 0)) 1 [[D.int .i64 n]]))))),
 .bool fz],
 .nils, .int .i64 0])))
 (.need (HiD.Right (HiD.mk ha hb hc) ∧ D.len hc ≤ 1000000)
 (.all fun hs_1 =>
 .all fun hs_2 =>
 .ret
 (SV.tup
 [.agg
 [.dat
 (D.like (hs_1 0 0) (Hist.sizes (Prod.fst (ackH (HiD.hist (HiD.mk ha hb hc)) n)))),
 .dat
 (D.like (hs_1 0 1) (Hist.writes (Prod.fst (ackH (HiD.hist (HiD.mk ha hb hc)) n)))),
 .dat
 (D.like (hs_1 0 2) (Hist.events (Prod.fst (ackH (HiD.hist (HiD.mk ha hb hc)) n)))),
 .dat
 (D.slc (D.hd (hs 6 0)) 1
 (List.map (fun n => [D.int .i64 n]) (withoutI (D.to Int wt) n))),
 .dat
 (D.slc (D.hd (hs 9 0)) 1
 (List.map (fun n => [D.int .i64 n])
 (List.append (D.to Int hd) (D.to Int (D.slc none 0 []))))),
 .bool fz],
 .dat (D.slc (D.hd (hs_2 0 0)) 1 [[D.int .i64 n]]),
 .int .i64 0])))))))))) := by kernel_rfl

theorem rfz_in : exec Try.prog ctRX 300 (entry Try.prog 20 [.agg [.dat ha, .dat hb, .dat hc, .dat wt, .dat hd, .bool fz]]) =
 Tree.need (GrD.Right (GrD.mk (HiD.mk ha hb hc) wt hd fz))
 (.br (openErr (GrD.gr (GrD.mk (HiD.mk ha hb hc) wt hd fz)) != 0)
 (.ret
 (SV.tup
 [.agg [.nils, .nils, .nils, .nils, .nils, .lb false], .int .i64 0,
 .int .i64 (openErr (GrD.gr (GrD.mk (HiD.mk ha hb hc) wt hd fz)))]))
 (.br fz
 (.ret
 (SV.tup
 [.agg [.nils, .nils, .nils, .nils, .nils, .lb false], .int .i64 0,
 .int .i64 26]))
 (.all fun hs =>
 .need (HiD.Right (HiD.mk ha hb hc))
 (.need (D.Is Int wt ∧ D.Is Int (D.slc none 0 []) ∧ D.len wt ≤ 1048576 ∧ 0 ≤ 1048576)
 (.ret
 (SV.tup
 [.agg
 [.dat (D.like (hs 2 0) (D.to Int ha)), .dat (D.like (hs 2 1) (D.to Wt hb)),
 .dat (D.like (hs 2 2) (D.to Ev hc)),
 .dat
 (D.slc (D.hd (hs 5 0)) 1
 (List.map (fun n => [D.int .i64 n])
 (List.append (D.to Int wt) (D.to Int (D.slc none 0 []))))),
 .nils, .lb true],
 .int .i64 (↑(D.len hb) : Int), .int .i64 0])))))) := by kernel_rfl

theorem rth_in : exec Try.prog ctRX 300 (entry Try.prog 22 [.agg [.dat ha, .dat hb, .dat hc, .dat wt, .dat hd, .bool fz]]) =
 Tree.need (GrD.Right (GrD.mk (HiD.mk ha hb hc) wt hd fz))
 (.br (openErr (GrD.gr (GrD.mk (HiD.mk ha hb hc) wt hd fz)) != 0)
 (.ret
 (SV.tup
 [.agg [.nils, .nils, .nils, .nils, .nils, .lb false], .nils,
 .int .i64 (openErr (GrD.gr (GrD.mk (HiD.mk ha hb hc) wt hd fz)))]))
 (.br (!fz)
 (.ret
 (SV.tup [.agg [.nils, .nils, .nils, .nils, .nils, .lb false], .nils, .int .i64 12]))
 (.need (HiD.Right (HiD.mk ha hb hc))
 (.all fun hs =>
 .leaf
 (Conf.mk
 (SFrm.mk 22 none none
 [Item.inLoop (cAt Try.prog 22 [1, 1, 1, 1, 0, 1, 0, 0]), Item.inBlock 0,
 Item.code (cAt Try.prog 22 [1, 1, 1, 1, 1])]
 (mkJ 0 [(1, .ptr 0 0), (2, .ptr 1 0), (6, .ptr 2 0), (7, .int .i64 0)] 0 46))
 []
 [(0, OBlk.cells 28 [.dat ha, .dat hb, .dat hc, .dat wt, .dat hd, .bool fz]),
 (1, OBlk.cells 28 [.nils, .nils, .nils, .nils, .nils, .lb false]),
 (2,
 OBlk.cells 26
 [.dat (D.like (hs 0 0) (D.to Int ha)), .dat (D.like (hs 0 1) (D.to Wt hb)),
 .dat (D.like (hs 0 2) (D.to Ev hc))])]))))) := by kernel_rfl

theorem rrc_in : exec Try.prog ctRX 300 (entry Try.prog 24 [.agg [.dat ha, .dat hb, .dat hc, .dat wt, .dat hd, .bool fz], .dat d]) =
 Tree.need (GrD.Right (GrD.mk (HiD.mk ha hb hc) wt hd fz))
 (.br (openErr (GrD.gr (GrD.mk (HiD.mk ha hb hc) wt hd fz)) != 0)
 (.ret
 (SV.tup
 [.agg [.nils, .nils, .nils, .nils, .nils, .lb false], .nils,
 .int .i64 (openErr (GrD.gr (GrD.mk (HiD.mk ha hb hc) wt hd fz)))]))
 (.br (decide ((↑(D.len d) : Int) > (↑(D.len hb) : Int)))
 (.ret
 (SV.tup [.agg [.nils, .nils, .nils, .nils, .nils, .lb false], .nils, .int .i64 27]))
 (.need ((↑(D.len d) : Int) ≤ 1000000)
 (.all fun hs =>
 .need (D.Is Int d ∧ D.Is Int (D.like (hs 0 0) (firstN (↑(D.len d) : Int))) ∧ D.len d ≤ 1048576)
 (.br (!decide (D.to Int d = D.to Int (D.like (hs 0 0) (firstN (↑(D.len d) : Int)))))
 (.ret
 (SV.tup
 [.agg [.nils, .nils, .nils, .nils, .nils, .lb false], .nils, .int .i64 27]))
 (.leaf
 (Conf.mk
 (SFrm.mk 24 none none
 [Item.inLoop (cAt Try.prog 24 [1, 1, 1, 1, 0, 1, 0, 0]), Item.inBlock 0,
 Item.code (cAt Try.prog 24 [1, 1, 1, 1, 1])]
 (mkJ 0
 [(1, .dat d), (2, .ptr 0 0), (4, .ptr 1 0), (8, .int .i64 (↑(D.len d) : Int)),
 (9, .int .i64 (↑(D.len d) : Int))]
 0 79))
 []
 [(0, OBlk.cells 28 [.dat ha, .dat hb, .dat hc, .dat wt, .dat hd, .bool fz]),
 (1, OBlk.cells 28 [.nils, .nils, .nils, .nils, .nils, .lb false])]))))))) := by kernel_rfl

end
end Go.Proofs.Ytodhhmjilnfecaa
end
section
open Go Go.Proofs Sx
namespace Go.Proofs.Ytodhhmjilnfecaa
set_option maxRecDepth 100000
set_option maxHeartbeats 0
noncomputable def rthL (ha hb hc wt hd a b c : D) (fz : Bool) (j : Int) : Conf := Conf.mk (SFrm.mk 22 none none [Item.inLoop (cAt Try.prog 22 [1, 1, 1, 1, 0, 1, 0, 0]), Item.inBlock 0, Item.code (cAt Try.prog 22 [1, 1, 1, 1, 1])] (mkJ 0 [(1, .ptr 0 0), (2, .ptr 1 0), (6, .ptr 2 0), (7, .int .i64 j)] 0 46)) [] [(0, OBlk.cells 28 [.dat ha, .dat hb, .dat hc, .dat wt, .dat hd, .bool fz]), (1, OBlk.cells 28 [.nils, .nils, .nils, .nils, .nils, .lb false]), (2, OBlk.cells 26 [.dat a, .dat b, .dat c])]
noncomputable def rrcA (ha hb hc wt hd d : D) (fz : Bool) (p j : Int) : Conf := Conf.mk (SFrm.mk 24 none none [Item.inLoop (cAt Try.prog 24 [1, 1, 1, 1, 0, 1, 0, 0]), Item.inBlock 0, Item.code (cAt Try.prog 24 [1, 1, 1, 1, 1])] (mkJ 0 [(1, .dat d), (2, .ptr 0 0), (4, .ptr 1 0), (8, .int .i64 p), (9, .int .i64 j)] 0 79)) [] [(0, OBlk.cells 28 [.dat ha, .dat hb, .dat hc, .dat wt, .dat hd, .bool fz]), (1, OBlk.cells 28 [.nils, .nils, .nils, .nils, .nils, .lb false])]
section
variable (ha hb hc wt hd a b c d : D) (fz : Bool) (p j : Int)
theorem rth_go : exec Try.prog ctRX 300 (unroll (rthL ha hb hc wt hd a b c fz j)) =
 Tree.br (decide (j < (↑(D.len hd) : Int)))
 (.all fun hs =>
 .need (0 ≤ j ∧ j < (↑(D.len hd) : Int) ∧ D.sz hd = 1)
 (.need (D.HasCell hd (Int.toNat j) 0 (FT.int .i64))
 (.need (HiD.Right (HiD.mk a b c) ∧ D.len c ≤ 1000000)
 (.leaf
 (Conf.mk
 (SFrm.mk 22 none none
 [Item.inLoop (cAt Try.prog 22 [1, 1, 1, 1, 0, 1, 0, 0]), Item.inBlock 0,
 Item.code (cAt Try.prog 22 [1, 1, 1, 1, 1])]
 (mkJ 0
 [(1, .ptr 0 0), (2, .ptr 1 0), (6, .ptr 2 0),
 (7, .int .i64 (IntKind.wrap .i64 (j + 1)))]
 0 46))
 []
 [(0, OBlk.cells 28 [.dat ha, .dat hb, .dat hc, .dat wt, .dat hd, .bool fz]),
 (1, OBlk.cells 28 [.nils, .nils, .nils, .nils, .nils, .lb false]),
 (2,
 OBlk.cells 26
 [.dat
 (D.like (hs 6 0)
 (Hist.sizes (Prod.fst (ackH (HiD.hist (HiD.mk a b c)) (D.getInt hd (Int.toNat j) 0))))),
 .dat
 (D.like (hs 6 1)
 (Hist.writes (Prod.fst (ackH (HiD.hist (HiD.mk a b c)) (D.getInt hd (Int.toNat j) 0))))),
 .dat
 (D.like (hs 6 2)
 (Hist.events
 (Prod.fst (ackH (HiD.hist (HiD.mk a b c)) (D.getInt hd (Int.toNat j) 0)))))])])))))
 (.all fun hs =>
 .need (D.Is Int wt ∧ D.Is Int (D.slc none 0 []) ∧ D.len wt ≤ 1048576 ∧ 0 ≤ 1048576)
 (.need (D.Is Int hd ∧ D.Is Int (D.slc none 0 []) ∧ D.len hd ≤ 1048576 ∧ 0 ≤ 1048576)
 (.ret
 (SV.tup
 [.agg
 [.dat a, .dat b, .dat c,
 .dat
 (D.slc (D.hd (hs 3 0)) 1
 (List.map (fun n => [D.int .i64 n])
 (List.append (D.to Int wt) (D.to Int (D.slc none 0 []))))),
 .nils, .lb false],
 .dat
 (D.slc (D.hd (hs 7 0)) 1
 (List.map (fun n => [D.int .i64 n]) (List.append (D.to Int hd) (D.to Int (D.slc none 0 []))))),
 .int .i64 0])))) := by kernel_rfl

theorem rrca_go : exec Try.prog ctRX 300 (unroll (rrcA ha hb hc wt hd d fz p j)) =
 Tree.br (decide (j < (↑(D.len hb) : Int)))
 (.need (D.Is Ev hc ∧ D.len hc ≤ 1048576)
 (.br (decide (atEv (D.to Ev hc) (Ev.mk 1 j) ≥ 0))
 (.ret
 (SV.tup [.agg [.nils, .nils, .nils, .nils, .nils, .lb false], .nils, .int .i64 27]))
 (.leaf
 (Conf.mk
 (SFrm.mk 24 none none
 [Item.inLoop (cAt Try.prog 24 [1, 1, 1, 1, 0, 1, 0, 0]), Item.inBlock 0,
 Item.code (cAt Try.prog 24 [1, 1, 1, 1, 1])]
 (mkJ 0
 [(1, .dat d), (2, .ptr 0 0), (4, .ptr 1 0), (8, .int .i64 p),
 (9, .int .i64 (IntKind.wrap .i64 (j + 1)))]
 0 79))
 []
 [(0, OBlk.cells 28 [.dat ha, .dat hb, .dat hc, .dat wt, .dat hd, .bool fz]),
 (1, OBlk.cells 28 [.nils, .nils, .nils, .nils, .nils, .lb false])]))))
 (.need (HiD.Right (HiD.mk ha hb hc) ∧ D.Is Int d ∧ D.len d ≤ 1048576)
 (.all fun hs =>
 .leaf
 (Conf.mk
 (SFrm.mk 24 none none
 [Item.inLoop (cAt Try.prog 24 [1, 1, 1, 1, 1, 1, 1, 0, 1, 0, 0]), Item.inBlock 2,
 Item.code (cAt Try.prog 24 [1, 1, 1, 1, 1, 1, 1, 1])]
 (mkJ 0
 [(4, .ptr 0 0), (8, .int .i64 p), (10, .ptr 1 0), (12, .nils), (13, .int .i64 0)]
 0 79))
 []
 [(0, OBlk.cells 28 [.nils, .nils, .nils, .nils, .nils, .lb false]),
 (1,
 OBlk.cells 26
 [.dat (D.like (hs 0 0) (Hist.sizes (Prod.fst (restrictH (HiD.hist (HiD.mk ha hb hc)) (D.to Int d))))),
 .dat
 (D.like (hs 0 1) (Hist.writes (Prod.fst (restrictH (HiD.hist (HiD.mk ha hb hc)) (D.to Int d))))),
 .dat
 (D.like (hs 0 2)
 (Hist.events (Prod.fst (restrictH (HiD.hist (HiD.mk ha hb hc)) (D.to Int d)))))])]))) := by kernel_rfl

end
end Go.Proofs.Ytodhhmjilnfecaa
end
section
open Go Go.Proofs Sx
namespace Go.Proofs.Ytodhhmjilnfecaa
set_option maxRecDepth 100000
set_option maxHeartbeats 0
noncomputable def rrcB (a b c r : D) (p j : Int) : Conf := Conf.mk (SFrm.mk 24 none none [Item.inLoop (cAt Try.prog 24 [1, 1, 1, 1, 1, 1, 1, 0, 1, 0, 0]), Item.inBlock 2, Item.code (cAt Try.prog 24 [1, 1, 1, 1, 1, 1, 1, 1])] (mkJ 0 [(4, .ptr 0 0), (8, .int .i64 p), (10, .ptr 1 0), (12, .vec 2), (13, .int .i64 j)] 0 79)) [] [(0, OBlk.cells 28 [.nils, .nils, .nils, .nils, .nils, .lb false]), (1, OBlk.cells 26 [.dat a, .dat b, .dat c]), (2, OBlk.arr 3 r)]
section
variable (a b c r : D) (p j : Int)
theorem rrcb_go : exec Try.prog ctRX 300 (unroll (rrcB a b c r p j)) =
 Tree.br (decide (j < p))
 (.need (D.Is Ev c ∧ D.len c ≤ 1048576)
 (.br (!decide (atEv (D.to Ev c) (Ev.mk 1 j) ≥ 0))
 (.need (HiD.Right (HiD.mk a b c) ∧ D.len c ≤ 1000000)
 (.all fun hs =>
 .all fun hs_1 =>
 .need
 (D.sz r = 1 ∧
 D.Fits (D.slc (D.hd (hs_1 0 0)) 1 [[D.int .i64 j]]) 1 ∧
 (D.len r + D.len (D.slc (D.hd (hs_1 0 0)) 1 [[D.int .i64 j]])) * 8 ≤ 140737488355328 ∧
 D.len r + D.len (D.slc (D.hd (hs_1 0 0)) 1 [[D.int .i64 j]]) ≤ 9223372036854775807)
 (.all fun hs_2 =>
 .leaf
 (Conf.mk
 (SFrm.mk 24 none none
 [Item.inLoop (cAt Try.prog 24 [1, 1, 1, 1, 1, 1, 1, 0, 1, 0, 0]), Item.inBlock 2,
 Item.code (cAt Try.prog 24 [1, 1, 1, 1, 1, 1, 1, 1])]
 (mkJ 0
 [(4, .ptr 0 0), (8, .int .i64 p), (10, .ptr 1 0), (12, .vec 2),
 (13, .int .i64 (IntKind.wrap .i64 (j + 1)))]
 0 79))
 []
 [(0, OBlk.cells 28 [.nils, .nils, .nils, .nils, .nils, .lb false]),
 (1,
 OBlk.cells 26
 [.dat (D.like (hs 0 0) (Hist.sizes (Prod.fst (ackH (HiD.hist (HiD.mk a b c)) j)))),
 .dat (D.like (hs 0 1) (Hist.writes (Prod.fst (ackH (HiD.hist (HiD.mk a b c)) j)))),
 .dat (D.like (hs 0 2) (Hist.events (Prod.fst (ackH (HiD.hist (HiD.mk a b c)) j))))]),
 (2,
 OBlk.arr 3
 (D.slc (D.hd (hs_2 0 0)) 1
 (List.append (D.rows r) (D.rows (D.slc (D.hd (hs_1 0 0)) 1 [[D.int .i64 j]])))))]))))
 (.leaf
 (Conf.mk
 (SFrm.mk 24 none none
 [Item.inLoop (cAt Try.prog 24 [1, 1, 1, 1, 1, 1, 1, 0, 1, 0, 0]), Item.inBlock 2,
 Item.code (cAt Try.prog 24 [1, 1, 1, 1, 1, 1, 1, 1])]
 (mkJ 0
 [(4, .ptr 0 0), (8, .int .i64 p), (10, .ptr 1 0), (12, .vec 2),
 (13, .int .i64 (IntKind.wrap .i64 (j + 1)))]
 0 79))
 []
 [(0, OBlk.cells 28 [.nils, .nils, .nils, .nils, .nils, .lb false]),
 (1, OBlk.cells 26 [.dat a, .dat b, .dat c]), (2, OBlk.arr 3 r)]))))
 (.ret
 (SV.tup [.agg [.dat a, .dat b, .dat c, .nils, .nils, .lb false], .dat r, .int .i64 0])) := by kernel_rfl

end
end Go.Proofs.Ytodhhmjilnfecaa
end
section
open Go Go.Proofs Sx
namespace Sx
theorem shift_getD {P : Program} {C : Ctx} {R : Value → World → Prop} (B : Nat) {c : Conf} (h : Runs P C ((shiftC B c).getD c) R) : Runs P C c R := by
  cases hs : shiftC B c with
  | none => rw [hs] at h; exact h
  | some c' => rw [hs] at h; exact shift_to B c' hs h
def keepE (n : Int) (l : List Ev) : List Ev := l.filter fun x => !decide (x.write ≥ n)
theorem keepE_succ {n : Int} {l : List Ev} {j : Nat} (hj : j < l.length) : keepE n (l.take (j + 1)) = if l[j].write ≥ n then keepE n (l.take j) else keepE n (l.take j) ++ [l[j]] := by
  unfold keepE
  rw [List.take_succ_eq_append_getElem hj, List.filter_append]
  by_cases h : l[j].write ≥ n
  · rw [if_pos h]; simp [List.filter_cons, h]
  · rw [if_neg h]; simp [List.filter_cons, h]
theorem una_ints (l : List Int) (h : Hd) : (D.slc h 1 (l.map fun n => [D.int .i64 n])).Is Int ∧ (D.slc h 1 (l.map fun n => [D.int .i64 n])).to Int = l := by
  refine ⟨⟨_, _, _, rfl, .inr rfl, fun r hr => ?_⟩, ?_⟩
  · obtain ⟨n, _, rfl⟩ := List.mem_map.1 hr; exact ⟨n, rfl⟩
  · simp only [D.to, D.rows, List.map_map]
    conv => rhs; rw [← List.map_id l]
    exact List.map_congr_left fun n _ => rfl
end Sx
namespace Go.Proofs.Ytodhhmjilnfecaa
set_option maxRecDepth 100000
set_option maxHeartbeats 0
section
variable {H : HV} {w : World} {R : Value → World → Prop} {N : Nat} {u p a x y : D} {fz : Bool} {E0 : List Ev} (hp : p.Is Bool) (hN : N ≤ p.len) (hpl : p.len ≤ 1048576) (hE : E0.length ≤ 1048576)
  (next : ∀ l q : D, (l.Is Int ∧ l.to Int = unackN (p.to Bool) N) → (q.Is Ev ∧ q.to Ev = keepE N E0 ∧ q.sz = 2) → Runs Try.prog ⟨w, H⟩ (eaA l u p a q) R)
include hp hN hpl hE next
theorem del_end {c : D} {i : Nat} (hc : c.Is Ev) (hz : c.sz = 2) (hi : i ≤ c.len) (hcl : c.len ≤ 1048576) (ht : (c.to Ev).take i = keepE N E0) : Runs Try.prog ⟨w, H⟩ (dfE N u c p a x y fz i) R := by
  apply shift_getD 2000
  refine goS_sound ctGrOk (fun _ => false) [(53, 6)] 300 _ ?_
  rw [ds_go]
  have hr : ∀ k : Nat, k ≤ c.len → (D.slc (D.hd c) (D.sz c) (List.append (List.take (Int.toNat (i : Int)) (D.rows c)) (List.append (List.replicate (D.len c - Int.toNat (i : Int)) [D.int IntKind.i64 0, D.int IntKind.i64 0]) (List.drop (Int.toNat (i : Int) + (D.len c - Int.toNat (i : Int))) (D.rows c))))).len = c.len := fun k hk => by
    simp only [len_slc, append_list, List.length_append, List.length_take, List.length_replicate, List.length_drop, Int.toNat_natCast]
    unfold D.len at hi ⊢; omega
  refine ⟨⟨by omega, by omega, hc.fits⟩, ⟨rfl, hz, by omega, by omega⟩, ⟨by omega, by rw [hr 0 (Nat.zero_le _)]; omega, .inr hz⟩, fun hs => ⟨⟨hp, by omega, by omega, hpl⟩, ?_⟩⟩
  refine next _ _ (una_ints _ _) ?_
  have e : List.take (Int.toNat (i : Int)) (D.rows (D.slc (D.hd c) (D.sz c) (List.append (List.take (Int.toNat (i : Int)) (D.rows c)) (List.append (List.replicate (D.len c - Int.toNat (i : Int)) [D.int IntKind.i64 0, D.int IntKind.i64 0]) (List.drop (Int.toNat (i : Int) + (D.len c - Int.toNat (i : Int))) (D.rows c)))))) = (D.rows c).take i := by
    rw [rows_slc, append_list, Int.toNat_natCast, List.take_append_of_le_length (by rw [List.length_take]; unfold D.len at hi; omega), List.take_take, Nat.min_self]
  rw [e]
  have hr2 := rows_of hc
  refine ⟨?_, ?_, hz⟩
  · exact is_rows hz fun r hr => hr2.1 r (List.mem_of_mem_take hr)
  · rw [← ht, to_slc, List.map_take, hr2.2]
theorem del_loop {c : D} {i j : Nat} (hc : c.Is Ev) (hz : c.sz = 2) (hcl : (c.to Ev).length = E0.length) (hij : i ≤ j) (hj : j ≤ E0.length) (ht : (c.to Ev).take i = keepE N (E0.take j)) (hd : (c.to Ev).drop j = E0.drop j) :
    Runs Try.prog ⟨w, H⟩ (dfL N u c p a x y fz i j) R := by
  refine runs_loop (fun s : D × Nat × Nat => dfL N u s.1 p a x y fz s.2.1 s.2.2) (fun s => s.1.Is Ev ∧ s.1.sz = 2 ∧ (s.1.to Ev).length = E0.length ∧ s.2.1 ≤ s.2.2 ∧ s.2.2 ≤ E0.length ∧ (s.1.to Ev).take s.2.1 = keepE N (E0.take s.2.2) ∧ (s.1.to Ev).drop s.2.2 = E0.drop s.2.2)
    (fun s => E0.length - s.2.2) (fun _ => rfl) ?_ (c, i, j) ⟨hc, hz, hcl, hij, hj, ht, hd⟩
  rintro ⟨c, i, j⟩ ⟨hc, hz, hcl, hij, hj, ht, hd⟩ ih
  simp only at hc hz hcl hij hj ht hd ih ⊢
  have cl := D.Is.length (α := Ev) c
  apply goS_sound ctGrOk (fun _ => false) [(55, 36)] 300
  rw [df_go]
  refine ⟨fun h1 => ?_, fun h1 => ?_⟩
  · have h1 : j < E0.length := by have := of_decide_eq_true h1; omega
    have h2 : j < (c.to Ev).length := by omega
    obtain ⟨c1, c2, c3⟩ := ev_cell hc h2
    have hx : (c.to Ev)[j] = E0[j] := by
      have e1 : ((c.to Ev).drop j)[0]? = (E0.drop j)[0]? := by rw [hd]
      simpa [h1, h2] using e1
    have wi : IntKind.i64.wrap ((i : Int) + 1) = ((i + 1 : Nat) : Int) := wrap_succ (n := E0.length) (by omega) hE
    have wj : IntKind.i64.wrap ((j : Int) + 1) = ((j + 1 : Nat) : Int) := wrap_succ h1 hE
    have sn := keepE_succ (n := (N : Int)) h1
    rw [wi, wj, Int.toNat_natCast j, c2, c3, hx]
    have hdd : (c.to Ev).drop (j + 1) = E0.drop (j + 1) := by
      have := congrArg (List.drop 1) hd
      simpa [List.drop_drop, Nat.add_comm] using this
    refine ⟨⟨by omega, by omega, hz⟩, ⟨c1, hz⟩, fun hk => ⟨⟨by omega, by omega, hz⟩, ⟨by rw [Int.toNat_natCast]; omega, by omega, hz⟩, ?_⟩, fun hk => ?_⟩
    · have hk : ¬(E0[j].write ≥ (N : Int)) := by simpa using hk
      rw [if_neg hk] at sn
      have hset := set_full (α := Ev) hc (i := i) (by omega) (xs := [D.int .i64 E0[j].kind, D.int .i64 E0[j].write]) (x := E0[j]) rfl ⟨_, _, rfl⟩ rfl
      refine ih (c.setCells i 0 [D.int .i64 E0[j].kind, D.int .i64 E0[j].write], i + 1, j + 1) ⟨hset.1, hz, by rw [hset.2, List.length_set]; exact hcl, by show i + 1 ≤ j + 1; omega, h1, ?_, ?_⟩ (by simp only; omega)
      · rw [hset.2, sn, ← ht]
        have hi2 : i < ((c.to Ev).set i E0[j]).length := by rw [List.length_set]; omega
        rw [List.take_succ_eq_append_getElem hi2, List.take_set_of_le (Nat.le_refl _), List.getElem_set_self]
      · rw [hset.2, List.drop_set_of_lt (show i < j + 1 by omega)]; exact hdd
    · have hk : E0[j].write ≥ (N : Int) := by simpa using hk
      rw [if_pos hk] at sn
      exact ih (c, i, j + 1) ⟨hc, hz, hcl, by show i ≤ j + 1; omega, h1, by rw [sn]; exact ht, hdd⟩ (by simp only; omega)
  · have h1 : j = E0.length := by have := of_decide_eq_false h1; omega
    subst h1
    rw [List.take_length] at ht
    exact del_end hp hN hpl hE next hc hz (by omega) (by omega) ht
end
end Go.Proofs.Ytodhhmjilnfecaa
end
section
open Go Go.Proofs Sx
namespace Sx
theorem keepE_all {n : Int} {l : List Ev} {j : Nat} (h : keepE n (l.take j) = l.take j) (hj : j < l.length) (hk : ¬l[j].write ≥ n) : keepE n (l.take (j + 1)) = l.take (j + 1) := by
  rw [keepE_succ hj, if_neg hk, h, List.take_succ_eq_append_getElem hj]
end Sx
namespace Go.Proofs.Ytodhhmjilnfecaa
set_option maxRecDepth 100000
set_option maxHeartbeats 0
theorem dx_run {H : HV} {w : World} {R : Value → World → Prop} {N : Nat} {u p a c x y : D} {fz : Bool} {E0 : List Ev} (hp : p.Is Bool) (hN : N ≤ p.len) (hpl : p.len ≤ 1048576) (hE : E0.length ≤ 1048576)
    (next : ∀ l q : D, (l.Is Int ∧ l.to Int = unackN (p.to Bool) N) → (q.Is Ev ∧ q.to Ev = keepE N E0 ∧ q.sz = 2) → Runs Try.prog ⟨w, H⟩ (eaA l u p a q) R)
    (hc : c.Is Ev) (hz : c.sz = 2) (ht : c.to Ev = E0) : Runs Try.prog ⟨w, H⟩ (dfA N u c p a x y fz) R := by
  have cl := D.Is.length (α := Ev) c
  refine goS_sound ctGrOk (fun _ => false) [(91, 5)] 300 _ ?_
  rw [df_in]
  show Runs _ _ (dxL N u c p a x y fz 0) _
  refine runs_loop (fun j : Nat => dxL N u c p a x y fz j) (fun j => j ≤ E0.length ∧ keepE N (E0.take j) = E0.take j) (fun j => E0.length - j) (fun _ => rfl) ?_ 0 ⟨Nat.zero_le _, rfl⟩
  intro j ⟨hj, hk⟩ ih
  refine goS_sound ctGrOk (fun _ => false) [(53, 6)] 300 _ ?_
  rw [dx_go]
  refine ⟨fun h1 => ?_, fun h1 => ?_⟩
  · have h1 : j < E0.length := by have := of_decide_eq_true h1; rw [ht] at cl; omega
    have h2 : j < (c.to Ev).length := by rw [ht]; exact h1
    obtain ⟨c1, c2, c3⟩ := ev_cell hc h2
    have hx : (c.to Ev)[j] = E0[j] := by simp only [ht]
    have wj : IntKind.i64.wrap ((j : Int) + 1) = ((j + 1 : Nat) : Int) := wrap_succ h1 hE
    rw [wj, Int.toNat_natCast j, c3, hx]
    refine ⟨⟨by omega, by omega, hz⟩, ⟨c1, hz⟩, fun hk1 => ⟨fun hm => ?_, fun _ => ?_⟩, fun hk1 => ?_⟩
    · exact absurd (of_decide_eq_true hm) (by show ¬((j : Int) = -1); omega)
    · have hk1 := of_decide_eq_true hk1
      refine del_loop hp hN hpl hE next hc hz (by rw [ht]) (Nat.le_succ j) h1 ?_ (by rw [ht])
      rw [keepE_succ h1, if_pos hk1, hk, ht]
    · have hk1 := of_decide_eq_false hk1
      exact ih (j + 1) ⟨h1, keepE_all hk h1 hk1⟩ (by omega)
  · have h1 : j = E0.length := by have := of_decide_eq_false h1; rw [ht] at cl; omega
    subst h1
    rw [List.take_length] at hk
    refine ⟨fun _ hs => ⟨⟨hp, by omega, by omega, hpl⟩, ?_⟩, fun h => Bool.noConfusion h⟩
    exact next _ _ (una_ints _ _) ⟨hc, by rw [ht]; exact hk.symm, hz⟩
theorem lawRecG : Law Try.prog 23 ((rdGr.two rdD).sp spRecG) := by
  refine law_in _ (by kernel_rfl) fun H w ⟨⟨⟨ha, hb, hc⟩, wt, hd, fz⟩, du⟩ hok hp => ?_
  obtain ⟨hx, hdu, hdl⟩ := hp _ (List.mem_singleton.2 rfl)
  have hx : GrD.Right ⟨⟨ha, hb, hc⟩, wt, hd, fz⟩ := hx
  simp only at hdu hdl
  have dl := D.Is.length (α := Int) du
  obtain ⟨⟨ra, rb, rc, la, lb, lc, rd⟩, rw', rh, lw, lh⟩ := id hx
  simp only at ra rb rc la lb lc rd rw' rh lw lh
  have hbl := D.Is.length (α := Wt) hb
  have hcl := D.Is.length (α := Ev) hc
  refine goS_sound (noCtr _) (fun _ => false) [(40, 1)] 50 _ ?_
  rw [show (rdGr.two rdD).canon (⟨⟨ha, hb, hc⟩, wt, hd, fz⟩, du) = [.agg [.dat ha, .dat hb, .dat hc, .dat wt, .dat hd, .bool fz], .dat du] from rfl, gr_in]
  refine runs_frame (Φ := openPhi ⟨⟨ha, hb, hc⟩, wt, hd, fz⟩) (top := opC ha hb hc wt hd fz) opC_pure (fun k hk => ?_) (fun H w _ => opCRuns hx) fun v m hv => ?_
  · have h : (SV.keysL (mkJ 0 [(1, .dat du), (4, .ptr 0 0)] 0 105) ++ ((([] : List SFrm).flatMap fun f => SV.keysL f.tmps) ++ Mem.named [(0, .cells 28 [.nils, .nils, .nils, .nils, .nils, .lb false])])).all (fun k => decide (k < 500)) = true := by kernel_rfl
    exact of_decide_eq_true (List.all_eq_true.1 h k hk)
  generalize hg : GrD.gr ⟨⟨ha, hb, hc⟩, wt, hd, fz⟩ = g at hv
  have g1 : g.hist = (HiD.mk ha hb hc).hist := by rw [← hg]; rfl
  have g5 : g.hist.writes.length = hb.len := by rw [g1, hbl]; rfl
  have g6 : g.hist.events = hc.to Ev := by rw [g1]; rfl
  have g7 : g.hist.writes = hb.to Wt := by rw [g1]; rfl
  have g8 : g.hist.sizes = ha.to Int := by rw [g1]; rfl
  show Runs _ _ _ (RetD w H fun ds => .tup [grSV ds (recoverG g (du.to Int)).1, .dat ((ds 5).like (recoverG g (du.to Int)).2.1), .int .i64 (recoverG g (du.to Int)).2.2])
  unfold openPhi at hv
  rw [hg] at hv
  rcases hv with ⟨h0, rfl, rfl⟩ | ⟨h0, rfl, p, a, b, c, x, y, rfl, hP, hA, hB, hC, hX, hY, hZ⟩
  · show Runs _ _ (grA du (.tup [.nilp, .int .i64 (openErr g)]) []) _
    have hfr := recoverG_e1 (du := du.to Int) h0
    apply exec_sound (noCtr _) 200
    rw [grE_go]
    refine ⟨fun _ => ret_grLI ?_ ?_ ?_, fun h => absurd (by simpa using h) h0⟩
    · rw [hfr]; exact stands_zG fun _ => rfl
    · rw [hfr]; exact stands_nils
    · rw [hfr]
  · show Runs _ _ (grA du okV (okM p a b c x y fz)) _
    have hP2 : p.to Bool = ackd g.hist.writes.length g.hist.events := by rw [hP.2, g7, g6]
    have pl : p.len = hb.len := by rw [D.Is.length (α := Bool), hP.2, ackd_len, hbl]
    have bl : b.len = hb.len := by rw [D.Is.length (α := Wt), hB.2, hbl]
    apply exec_sound ctGrOk 300
    rw [grO_go]
    refine ⟨fun h => Bool.noConfusion h, fun _ hs => ⟨fun h1 => ?_, fun h1 => ?_⟩⟩
    · have hfr := recoverG_e2 (du := du.to Int) h0 (by have := of_decide_eq_true h1; omega)
      simp only [holds_need]
      refine ⟨h1, h1, h1, h1, h1, h1, h1, h1, h1, ret_grLI ?_ ?_ ?_⟩
      · rw [hfr]; exact stands_zG fun _ => rfl
      · rw [hfr]; exact stands_nils
      · rw [hfr]
    · have h1' := of_decide_eq_false h1
      have hle : du.len ≤ p.len := by omega
      have hsub := (D.Is.sub hP.1 (Int.toNat (du.len : Int)) (Int.toNat (du.len : Int) + (D.len p - Int.toNat (du.len : Int))))
      have e2 : (D.sub p (Int.toNat (du.len : Int)) (Int.toNat (du.len : Int) + (D.len p - Int.toNat (du.len : Int)))).to Bool = (ackd g.hist.writes.length g.hist.events).drop (du.to Int).length := by
        rw [hsub.2, Int.toNat_natCast, hP2, ← dl]
        rw [List.take_of_length_le]
        rw [List.length_drop, ackd_len, g5]; omega
      have e3 : (D.sub p (Int.toNat (du.len : Int)) (Int.toNat (du.len : Int) + (D.len p - Int.toNat (du.len : Int)))).len ≤ 1048576 := by
        rw [D.Is.length (α := Bool), e2, List.length_drop, ackd_len, g5]; omega
      simp only [holds_need]
      refine ⟨h1, h1, h1, h1, h1, h1, h1, ⟨by omega, by omega, hP.1.fits⟩, h1, ⟨hZ.2.2.2, by omega⟩, ⟨hsub.1, e3⟩, h1, ?_⟩
      · rw [e2]
        refine ⟨fun h2 => ?_, fun h2 => ?_⟩
        · have hfr := recoverG_e3 (du := du.to Int) h0 (by omega) h2
          refine ret_grLI ?_ ?_ ?_
          · rw [hfr]; exact stands_zG fun _ => rfl
          · rw [hfr]; exact stands_nils
          · rw [hfr]
        · show Runs _ _ (grL du p a b c x y fz 0) _
          refine runs_loop (fun j : Nat => grL du p a b c x y fz j) (fun j => j ≤ (du.to Int).length ∧ (du.to Int).take j = firstN (j : Int)) (fun j => (du.to Int).length - j) (fun _ => rfl) ?_ 0 ⟨Nat.zero_le _, rfl⟩
          intro j ⟨hj, hpre⟩ ih
          refine goS_sound ctGrOk (fun _ => false) [(55, 8)] 300 _ ?_
          rw [grl_go]
          refine ⟨fun h3 => ?_, fun h3 hs1 => ?_⟩
          · have h3 : j < (du.to Int).length := by have := of_decide_eq_true h3; omega
            obtain ⟨c1, c2, c3⟩ := int_at hdu h3
            have wj : IntKind.i64.wrap ((j : Int) + 1) = ((j + 1 : Nat) : Int) := wrap_succ h3 (by omega)
            rw [wj, c3]
            refine ⟨c1, c2, fun h4 => ?_, fun h4 => ?_⟩
            · have hfr := recoverG_e4 (du := du.to Int) h0 (by omega) h2 (fun e => by
                have : (du.to Int)[j] = (firstN ((du.to Int).length : Int))[j]'(by rw [firstN_len]; exact h3) := by
                  have e5 : (du.to Int)[j]? = (firstN ((du.to Int).length : Int))[j]? := by rw [← e]
                  rw [List.getElem?_eq_getElem h3, List.getElem?_eq_getElem (by rw [firstN_len]; exact h3)] at e5
                  exact Option.some.inj e5
                rw [firstN_get] at this
                rw [this] at h4; simp at h4)
              refine ret_grLI ?_ ?_ ?_
              · rw [hfr]; exact stands_zG fun _ => rfl
              · rw [hfr]; exact stands_nils
              · rw [hfr]
            · have h4 : (du.to Int)[j] = (j : Int) := by simpa using h4
              refine ih (j + 1) ⟨h3, ?_⟩ (by omega)
              rw [List.take_succ_eq_append_getElem h3, hpre, h4]
              unfold firstN
              rw [Int.toNat_natCast, Int.toNat_natCast, List.range_succ, List.map_append]; rfl
          · have h3 : j = (du.to Int).length := by have := of_decide_eq_false h3; omega
            subst h3
            rw [List.take_length] at hpre
            have hfr := recoverG_ok (du := du.to Int) h0 (by omega) h2 hpre
            have hbs := sub_is hB.1 (Int.toNat (du.len : Int))
            refine ⟨⟨by omega, by omega, by omega, hB.1.fits⟩, ?_⟩
            show Runs _ _ (dfA du.len (D.sub b 0 (Int.toNat (du.len : Int))) c p a x y fz) _
            refine dx_run (E0 := c.to Ev) hP.1 hle (by omega) (by rw [hC.2, ← hcl]; exact lc) (fun l q hl hq => ?_) hC.1 hZ.1 rfl
            refine goS_sound ctGrOk (fun _ => false) [(46, 1000)] 300 _ ?_
            rw [ea_in]
            show Runs _ _ (eaL l (D.sub b 0 (Int.toNat (du.len : Int))) p a q 0) _
            have hcv : (c.to Ev).length ≤ 1048576 := by rw [hC.2, ← hcl]; exact lc
            have := ea_loop (w := w) (H := H) hA hbs hq hP.1 hl (fun v hv => by
              obtain ⟨v1, v2, _⟩ := unack_mem.1 hv
              exact ⟨v1, by omega⟩) (Nat.le_trans (List.length_filter_le _ _) hcv) (Nat.le_trans filtN_len (by omega))
            unfold keepE at this
            rw [hP2, hB.2, hC.2, g7, g6] at this
            rw [hfr, ← dl, g7, g6, g8]
            exact this
end Go.Proofs.Ytodhhmjilnfecaa
end
section
open Go Go.Proofs Sx
namespace Go.Proofs.Ytodhhmjilnfecaa
set_option maxRecDepth 100000
set_option maxHeartbeats 0
theorem ctRXOk : Ctrs.Ok Try.prog ctRX := by
  intro x hx
  simp only [ctRX, List.mem_cons, List.not_mem_nil, or_false] at hx
  rcases hx with rfl | rfl | rfl | rfl | rfl | rfl | rfl | rfl | rfl | rfl | rfl
  · exact ctrOf_ok lawRkG
  · exact ctrOf_ok lawIssueR
  · exact ctrCpd
  · exact ctrWo
  · exact ctrOf_ok lawHas
  · exact ctrOf_ok lawCopyR
  · exact ctrOf_ok lawAckR
  · exact ctrOf_ok lawAckd
  · exact ctrOf_ok lawFst
  · exact ctrOf_ok lawInts
  · exact ctrOf_ok lawRestR
theorem lawIssGR : Law Try.prog 14 ((rdGr.two rdWt).sp spIssueG) := by
  refine law_in _ (by kernel_rfl) fun H w ⟨⟨⟨ha, hb, hc⟩, wt, hd, fz⟩, ⟨vv, s, e⟩⟩ hok hp => ?_
  obtain ⟨hx, hcl, hwo⟩ := hp _ (List.mem_singleton.2 rfl)
  have hx : GrD.Right ⟨⟨ha, hb, hc⟩, wt, hd, fz⟩ := hx
  have hcl : hc.len ≤ 1000000 := hcl
  obtain ⟨hR, rw', rh, lw, lh⟩ := id hx
  simp only at hR rw' rh lw lh
  apply exec_sound ctRXOk 300
  rw [show (rdGr.two rdWt).canon (⟨⟨ha, hb, hc⟩, wt, hd, fz⟩, ⟨vv, s, e⟩) = [.agg [.dat ha, .dat hb, .dat hc, .dat wt, .dat hd, .bool fz], .agg [.int .i64 vv, .int .i64 s, .dat e]] from rfl, ris_in]
  refine ⟨hx, fun h0 => ?_, fun h0 => ⟨⟨hR, hcl, hwo⟩, fun hs => ⟨fun he => ?_, fun he hs1 => ⟨⟨rw', (one_int _ _).1, lw, Nat.le_of_ble_eq_true rfl⟩, ⟨rh, is_nil0, lh, by decide⟩, ?_⟩⟩⟩⟩
  · have h0 : openErr (GrD.gr ⟨⟨ha, hb, hc⟩, wt, hd, fz⟩) ≠ 0 := by simpa using h0
    have hfr := issueG_e1 (w := WtD.wt ⟨vv, s, e⟩) h0
    refine ret_grII ?_ ?_ ?_
    · rw [hfr]; exact stands_zG fun _ => rfl
    · rw [hfr]
    · rw [hfr]
  · have h0 : openErr (GrD.gr ⟨⟨ha, hb, hc⟩, wt, hd, fz⟩) = 0 := by simpa using h0
    have he : (issueH (GrD.gr ⟨⟨ha, hb, hc⟩, wt, hd, fz⟩).hist (WtD.wt ⟨vv, s, e⟩)).2.2 ≠ 0 := by show (issueH (HiD.mk ha hb hc).hist (WtD.wt ⟨vv, s, e⟩)).2.2 ≠ 0; simpa using he
    have hfr := issueG_e2 h0 he
    refine ret_grII ?_ ?_ ?_
    · rw [hfr]; exact stands_zG fun _ => rfl
    · rw [hfr]
    · rw [hfr]; rfl
  · have h0 : openErr (GrD.gr ⟨⟨ha, hb, hc⟩, wt, hd, fz⟩) = 0 := by simpa using h0
    have he : (issueH (GrD.gr ⟨⟨ha, hb, hc⟩, wt, hd, fz⟩).hist (WtD.wt ⟨vv, s, e⟩)).2.2 = 0 := by show (issueH (HiD.mk ha hb hc).hist (WtD.wt ⟨vv, s, e⟩)).2.2 = 0; simpa using he
    have hfr := issueG_ok h0 he
    refine ret_grII ?_ ?_ ?_
    · rw [hfr]
      refine stands_gr stands_like stands_like stands_like (stands_ints (l' := wt.to Int ++ [(issueH (HiD.mk ha hb hc).hist (WtD.wt ⟨vv, s, e⟩)).2.1]) ?_) (stands_ints (l' := hd.to Int) ?_) (fun _ => rfl) rfl
      · rfl
      · show hd.to Int ++ [] = _; simp
    · rw [hfr]; rfl
    · rw [hfr]
theorem lawDurGR : Law Try.prog 16 ((rdGr.two rdInt).sp spDurR) := by
  refine law_in _ (by kernel_rfl) fun H w ⟨⟨⟨ha, hb, hc⟩, wt, hd, fz⟩, n⟩ hok hp => ?_
  obtain ⟨hx, hcl⟩ := hp _ (List.mem_singleton.2 rfl)
  have hx : GrD.Right ⟨⟨ha, hb, hc⟩, wt, hd, fz⟩ := hx
  have hcl : hc.len ≤ 1000000 := hcl
  obtain ⟨hR, rw', rh, lw, lh⟩ := id hx
  simp only at hR rw' rh lw lh
  apply exec_sound ctRXOk 300
  rw [show (rdGr.two rdInt).canon (⟨⟨ha, hb, hc⟩, wt, hd, fz⟩, n) = [.agg [.dat ha, .dat hb, .dat hc, .dat wt, .dat hd, .bool fz], .int .i64 n] from rfl, rdu_in]
  have hfr := durG_ref (GrD.gr ⟨⟨ha, hb, hc⟩, wt, hd, fz⟩) n
  unfold durR at hfr
  refine ⟨hx, fun h0 => ?_, fun h0 => ⟨⟨rw', lw⟩, fun he => ?_, fun he hs => ⟨hR, ⟨rw', lw⟩, ⟨rh, is_nil0, lh, by decide⟩, fun hf hs1 => ⟨⟨rh, (one_int _ _).1, lh, Nat.le_of_ble_eq_true rfl⟩, fun hs2 => ?_⟩, fun hf => ⟨⟨hR, hcl⟩, fun hs1 hs2 => ?_⟩⟩⟩⟩
  · have h0 : openErr (GrD.gr ⟨⟨ha, hb, hc⟩, wt, hd, fz⟩) ≠ 0 := by simpa using h0
    rw [if_pos h0] at hfr
    refine ret_grLI ?_ ?_ ?_
    · rw [hfr]; exact stands_zG fun _ => rfl
    · rw [hfr]; exact stands_nils
    · rw [hfr]
  · have h0 : ¬openErr (GrD.gr ⟨⟨ha, hb, hc⟩, wt, hd, fz⟩) ≠ 0 := by simpa using h0
    rw [if_neg h0, if_pos (show (GrD.gr ⟨⟨ha, hb, hc⟩, wt, hd, fz⟩).waiting.contains n = false from by show (wt.to Int).contains n = false; simpa using he)] at hfr
    refine ret_grLI ?_ ?_ ?_
    · rw [hfr]; exact stands_zG fun _ => rfl
    · rw [hfr]; exact stands_nils
    · rw [hfr]
  · have h0 : ¬openErr (GrD.gr ⟨⟨ha, hb, hc⟩, wt, hd, fz⟩) ≠ 0 := by simpa using h0
    rw [if_neg h0, if_neg (show ¬(GrD.gr ⟨⟨ha, hb, hc⟩, wt, hd, fz⟩).waiting.contains n = false from fun e => by
      have he : (wt.to Int).contains n = true := by simpa using he
      have e : (wt.to Int).contains n = false := e
      rw [he] at e; cases e), if_pos (show (GrD.gr ⟨⟨ha, hb, hc⟩, wt, hd, fz⟩).frozen = true from hf)] at hfr
    refine ret_grLI ?_ ?_ ?_
    · rw [hfr]
      exact stands_gr stands_like stands_like stands_like (stands_ints (l' := withoutI (wt.to Int) n) rfl) (stands_ints (l' := hd.to Int ++ [n]) rfl) (b := true) (fun _ => by rw [hf]; rfl) rfl
    · rw [hfr]; exact stands_nils
    · rw [hfr]
  · have h0 : ¬openErr (GrD.gr ⟨⟨ha, hb, hc⟩, wt, hd, fz⟩) ≠ 0 := by simpa using h0
    rw [if_neg h0, if_neg (show ¬(GrD.gr ⟨⟨ha, hb, hc⟩, wt, hd, fz⟩).waiting.contains n = false from fun e => by
      have he : (wt.to Int).contains n = true := by simpa using he
      have e : (wt.to Int).contains n = false := e
      rw [he] at e; cases e), if_neg (show ¬(GrD.gr ⟨⟨ha, hb, hc⟩, wt, hd, fz⟩).frozen = true from fun e => by have e : fz = true := e; rw [hf] at e; cases e)] at hfr
    refine ret_grLI ?_ ?_ ?_
    · rw [hfr]
      exact stands_gr stands_like stands_like stands_like (stands_ints (l' := withoutI (wt.to Int) n) rfl) (stands_ints (l' := hd.to Int) (by show hd.to Int ++ [] = _; simp)) (b := false) (fun _ => by rw [hf]; rfl) rfl
    · rw [hfr]; exact stands_dat (one_int _ _).1 (one_int _ _).2
    · rw [hfr]
theorem lawFrzGR : Law Try.prog 20 (rdGr.one.sp spFrzG) := by
  refine law_in _ (by kernel_rfl) fun H w ⟨⟨ha, hb, hc⟩, wt, hd, fz⟩ hok hp => ?_
  have hx : GrD.Right ⟨⟨ha, hb, hc⟩, wt, hd, fz⟩ := hp _ (List.mem_singleton.2 rfl)
  obtain ⟨hR, rw', rh, lw, lh⟩ := id hx
  simp only at hR rw' rh lw lh
  have bl := D.Is.length (α := Wt) hb
  apply exec_sound ctRXOk 300
  rw [show rdGr.one.canon ⟨⟨ha, hb, hc⟩, wt, hd, fz⟩ = [.agg [.dat ha, .dat hb, .dat hc, .dat wt, .dat hd, .bool fz]] from rfl, rfz_in]
  have hfr := frzG_ref (GrD.gr ⟨⟨ha, hb, hc⟩, wt, hd, fz⟩)
  unfold frzR at hfr
  refine ⟨hx, fun h0 => ?_, fun h0 => ⟨fun hf => ?_, fun hf hs => ⟨hR, ⟨rw', is_nil0, lw, by decide⟩, ?_⟩⟩⟩
  · have h0 : openErr (GrD.gr ⟨⟨ha, hb, hc⟩, wt, hd, fz⟩) ≠ 0 := by simpa using h0
    rw [if_pos h0] at hfr
    refine ret_grII ?_ ?_ ?_
    · rw [hfr]; exact stands_zG fun _ => rfl
    · rw [hfr]
    · rw [hfr]
  · have h0 : ¬openErr (GrD.gr ⟨⟨ha, hb, hc⟩, wt, hd, fz⟩) ≠ 0 := by simpa using h0
    rw [if_neg h0, if_pos (show (GrD.gr ⟨⟨ha, hb, hc⟩, wt, hd, fz⟩).frozen = true from hf)] at hfr
    refine ret_grII ?_ ?_ ?_
    · rw [hfr]; exact stands_zG fun _ => rfl
    · rw [hfr]
    · rw [hfr]
  · have h0 : ¬openErr (GrD.gr ⟨⟨ha, hb, hc⟩, wt, hd, fz⟩) ≠ 0 := by simpa using h0
    rw [if_neg h0, if_neg (show ¬(GrD.gr ⟨⟨ha, hb, hc⟩, wt, hd, fz⟩).frozen = true from fun e => by have e : fz = true := e; rw [hf] at e; cases e)] at hfr
    refine ret_grII ?_ ?_ ?_
    · rw [hfr]
      exact stands_gr stands_like stands_like stands_like (stands_ints (l' := wt.to Int) (by show wt.to Int ++ [] = _; simp)) stands_nils (b := true) (fun _ => rfl) rfl
    · rw [hfr, bl]; rfl
    · rw [hfr]
theorem lawThawGR : Law Try.prog 22 (rdGr.one.sp spThawR) := by
  refine law_in _ (by kernel_rfl) fun H w ⟨⟨ha, hb, hc⟩, wt, hd, fz⟩ hok hp => ?_
  obtain ⟨hx, hcl, hhl⟩ := hp _ (List.mem_singleton.2 rfl)
  have hx : GrD.Right ⟨⟨ha, hb, hc⟩, wt, hd, fz⟩ := hx
  have hcl : hc.len ≤ 500000 := hcl
  have hhl : hd.len ≤ 500000 := hhl
  obtain ⟨hR, rw', rh, lw, lh⟩ := id hx
  simp only at hR rw' rh lw lh
  obtain ⟨ra, rb, rc, la, lb, lc, rd⟩ := id hR
  simp only at ra rb rc la lb lc rd
  have al := D.Is.length (α := Int) ha
  have bl := D.Is.length (α := Wt) hb
  have cl := D.Is.length (α := Ev) hc
  have hl := D.Is.length (α := Int) hd
  apply exec_sound ctRXOk 300
  rw [show rdGr.one.canon ⟨⟨ha, hb, hc⟩, wt, hd, fz⟩ = [.agg [.dat ha, .dat hb, .dat hc, .dat wt, .dat hd, .bool fz]] from rfl, rth_in]
  have hfr := thawG_ref (GrD.gr ⟨⟨ha, hb, hc⟩, wt, hd, fz⟩)
  unfold thawR at hfr
  refine ⟨hx, fun h0 => ?_, fun h0 => ⟨fun hf => ?_, fun hf => ⟨hR, fun hs => ?_⟩⟩⟩
  · have h0 : openErr (GrD.gr ⟨⟨ha, hb, hc⟩, wt, hd, fz⟩) ≠ 0 := by simpa using h0
    rw [if_pos h0] at hfr
    refine ret_grLI ?_ ?_ ?_
    · rw [hfr]; exact stands_zG fun _ => rfl
    · rw [hfr]; exact stands_nils
    · rw [hfr]
  · have h0 : ¬openErr (GrD.gr ⟨⟨ha, hb, hc⟩, wt, hd, fz⟩) ≠ 0 := by simpa using h0
    rw [if_neg h0, if_pos (show (GrD.gr ⟨⟨ha, hb, hc⟩, wt, hd, fz⟩).frozen = false from by show fz = false; simpa using hf)] at hfr
    refine ret_grLI ?_ ?_ ?_
    · rw [hfr]; exact stands_zG fun _ => rfl
    · rw [hfr]; exact stands_nils
    · rw [hfr]
  · have h0 : ¬openErr (GrD.gr ⟨⟨ha, hb, hc⟩, wt, hd, fz⟩) ≠ 0 := by simpa using h0
    have h0' : openErr (GrD.gr ⟨⟨ha, hb, hc⟩, wt, hd, fz⟩) = 0 := by simpa using h0
    rw [if_neg h0, if_neg (show ¬(GrD.gr ⟨⟨ha, hb, hc⟩, wt, hd, fz⟩).frozen = false from fun e => by have e : fz = false := e; rw [e] at hf; cases hf)] at hfr
    have hgo : ∀ j, ackAll ((hd.to Int).take j) (HiD.mk ha hb hc).hist = ⟨ha.to Int, hb.to Wt, hc.to Ev ++ ((hd.to Int).take j).map (Ev.mk 1)⟩ := thaw_go h0'
    show Runs _ _ (rthL ha hb hc wt hd ((hs 0 0).like (ha.to Int)) ((hs 0 1).like (hb.to Wt)) ((hs 0 2).like (hc.to Ev)) fz 0) _
    refine runs_loop (fun u : Nat × D × D × D => rthL ha hb hc wt hd u.2.1 u.2.2.1 u.2.2.2 fz u.1) (fun u => u.1 ≤ (hd.to Int).length ∧ u.2.1.Is Int ∧ u.2.2.1.Is Wt ∧ u.2.2.2.Is Ev ∧ (HiD.mk u.2.1 u.2.2.1 u.2.2.2).hist = ackAll ((hd.to Int).take u.1) (HiD.mk ha hb hc).hist) (fun u => (hd.to Int).length - u.1) (fun _ => rfl) ?_
      (0, (hs 0 0).like (ha.to Int), (hs 0 1).like (hb.to Wt), (hs 0 2).like (hc.to Ev)) ⟨Nat.zero_le _, D.like_is _ _, D.like_is _ _, D.like_is _ _, by simp only [HiD.hist, D.like_to]; rfl⟩
    rintro ⟨j, a, b, c⟩ ⟨hj, i1, i2, i3, i4⟩ ih
    simp only at hj i1 i2 i3 i4 ih ⊢
    have hE := i4
    rw [hgo j] at hE
    have e1 : a.to Int = ha.to Int := congrArg Hist.sizes hE
    have e2 : b.to Wt = hb.to Wt := congrArg Hist.writes hE
    have e3 : c.to Ev = hc.to Ev ++ ((hd.to Int).take j).map (Ev.mk 1) := congrArg Hist.events hE
    have al' := D.Is.length (α := Int) a
    have bl' := D.Is.length (α := Wt) b
    have cl' := D.Is.length (α := Ev) c
    rw [e1] at al'; rw [e2] at bl'; rw [e3, List.length_append, List.length_map, List.length_take] at cl'
    have hRj : HiD.Right ⟨a, b, c⟩ := ⟨i1, i2, i3, by simp only; omega, by simp only; omega, by simp only; omega, by simp only; rw [e2]; exact rd⟩
    apply exec_sound ctRXOk 300
    rw [rth_go]
    refine ⟨fun hc1 hs1 => ?_, fun hc1 hs1 => ⟨⟨rw', is_nil0, lw, by decide⟩, ⟨rh, is_nil0, lh, by decide⟩, ?_⟩⟩
    · have hcj : j < (hd.to Int).length := by have := of_decide_eq_true hc1; omega
      obtain ⟨c1, c2, c3⟩ := int_at rh hcj
      have wj : IntKind.i64.wrap ((j : Int) + 1) = ((j + 1 : Nat) : Int) := wrap_succ hcj (by omega)
      rw [wj, c3]
      refine ⟨c1, c2, ⟨hRj, by omega⟩, ?_⟩
      refine ih (j + 1, (hs1 6 0).like (ackH (HiD.mk a b c).hist ((hd.to Int)[j])).1.sizes, (hs1 6 1).like (ackH (HiD.mk a b c).hist ((hd.to Int)[j])).1.writes, (hs1 6 2).like (ackH (HiD.mk a b c).hist ((hd.to Int)[j])).1.events) ⟨hcj, D.like_is _ _, D.like_is _ _, D.like_is _ _, ?_⟩ (by simp only; omega)
      simp only [like_hist]
      rw [ackAll_snoc hcj, i4]
    · have hjl : j = (hd.to Int).length := by have := of_decide_eq_false hc1; omega
      subst hjl
      rw [List.take_length] at i4
      refine ret_grLI ?_ ?_ ?_
      · rw [hfr]
        refine stands_gr (stands_dat i1 rfl) (stands_dat i2 rfl) (stands_dat i3 rfl) (stands_ints (l' := wt.to Int) (by show wt.to Int ++ [] = _; simp)) stands_nils (b := false) (fun _ => rfl) ?_
        show (⟨ackAll (hd.to Int) (HiD.mk ha hb hc).hist, wt.to Int, [], false⟩ : Gr) = _
        rw [← i4]; rfl
      · rw [hfr]; exact stands_ints (l' := hd.to Int) (by show hd.to Int ++ [] = _; simp)
      · rw [hfr]
end Go.Proofs.Ytodhhmjilnfecaa
end
section
open Go Go.Proofs Sx
namespace Sx
theorem recG_27 {g : Gr} {du : List Int} (h0 : openErr g = 0) (h : du.length > g.hist.writes.length ∨ ((ackd g.hist.writes.length g.hist.events).drop du.length).any (fun y => decide (true = y)) = true ∨ du ≠ firstN du.length) : recoverG g du = (zGr, [], 27) := by
  by_cases h2 : du.length > g.hist.writes.length
  · exact recoverG_e2 h0 h2
  · cases h3 : ((ackd g.hist.writes.length g.hist.events).drop du.length).any (fun y => decide (true = y)) with
    | true => exact recoverG_e3 h0 h2 h3
    | false =>
      rw [h3] at h
      rcases h with h | h | h
      · exact absurd h h2
      · cases h
      · exact recoverG_e4 h0 h2 h3 h
end Sx
namespace Go.Proofs.Ytodhhmjilnfecaa
set_option maxRecDepth 100000
set_option maxHeartbeats 0
theorem lawRecGR : Law Try.prog 24 ((rdGr.two rdD).sp spRecR) := by
  refine law_in _ (by kernel_rfl) fun H w ⟨⟨⟨ha, hb, hc⟩, wt, hd, fz⟩, du⟩ hok hp => ?_
  obtain ⟨hx, hcl, hdu, hdl⟩ := hp _ (List.mem_singleton.2 rfl)
  have hx : GrD.Right ⟨⟨ha, hb, hc⟩, wt, hd, fz⟩ := hx
  have hcl : hc.len ≤ 500000 := hcl
  simp only at hdu hdl
  obtain ⟨hR, rw', rh, lw, lh⟩ := id hx
  simp only at hR rw' rh lw lh
  obtain ⟨ra, rb, rc, la, lb, lc, rd⟩ := id hR
  simp only at ra rb rc la lb lc rd
  have al := D.Is.length (α := Int) ha
  have bl := D.Is.length (α := Wt) hb
  have cl := D.Is.length (α := Ev) hc
  have dl := D.Is.length (α := Int) du
  apply exec_sound ctRXOk 300
  rw [show (rdGr.two rdD).canon (⟨⟨ha, hb, hc⟩, wt, hd, fz⟩, du) = [.agg [.dat ha, .dat hb, .dat hc, .dat wt, .dat hd, .bool fz], .dat du] from rfl, rrc_in]
  generalize hg : GrD.gr ⟨⟨ha, hb, hc⟩, wt, hd, fz⟩ = g
  have g1 : g.hist = (HiD.mk ha hb hc).hist := by rw [← hg]; rfl
  have g5 : g.hist.writes.length = hb.len := by rw [g1, bl]; rfl
  have g6 : g.hist.events = hc.to Ev := by rw [g1]; rfl
  have g7 : g.hist.writes = hb.to Wt := by rw [g1]; rfl
  have g8 : g.hist.sizes = ha.to Int := by rw [g1]; rfl
  show Tree.holds _ _ (RetD w H fun ds => .tup [grSV ds (recoverG g (du.to Int)).1, .dat ((ds 5).like (recoverG g (du.to Int)).2.1), .int .i64 (recoverG g (du.to Int)).2.2]) _
  have err : ∀ k : Int, recoverG g (du.to Int) = (zGr, [], k) → (Tree.ret (.tup [.agg [.nils, .nils, .nils, .nils, .nils, .lb false], .nils, .int .i64 k])).holds Try.prog ⟨w, H⟩ (RetD w H fun ds => .tup [grSV ds (recoverG g (du.to Int)).1, .dat ((ds 5).like (recoverG g (du.to Int)).2.1), .int .i64 (recoverG g (du.to Int)).2.2]) := fun k hfr => by
    refine ret_grLI ?_ ?_ ?_
    · rw [hfr]; exact stands_zG fun _ => rfl
    · rw [hfr]; exact stands_nils
    · rw [hfr]
  refine ⟨hx, fun h0 => ?_, fun h0 => ⟨fun h1 => ?_, fun h1 => ⟨by omega, fun hs => ⟨⟨hdu, D.like_is _ _, by omega⟩, fun h2 => ?_, fun h2 => ?_⟩⟩⟩⟩
  · exact err _ (recoverG_e1 (by simpa using h0))
  · have h1 := of_decide_eq_true h1
    exact err _ (recG_27 (by simpa using h0) (.inl (by omega)))
  · have h2 : du.to Int ≠ firstN du.len := by rw [D.like_to] at h2; simpa using h2
    rw [dl] at h2
    exact err _ (recG_27 (by simpa using h0) (.inr (.inr h2)))
  have h0 : openErr g = 0 := by simpa using h0
  have hck := ((openErr_iff g).1 h0).1
  have h1 : du.len ≤ hb.len := by have := of_decide_eq_false h1; omega
  have h2 : du.to Int = firstN du.len := by rw [D.like_to] at h2; simpa using h2
  have hle : du.len ≤ g.hist.writes.length := by omega
  show Runs _ _ (rrcA ha hb hc wt hd du fz du.len du.len) _
  refine runs_loop (fun j : Nat => rrcA ha hb hc wt hd du fz du.len j) (fun j => du.len ≤ j ∧ j ≤ hb.len ∧ ∀ i : Nat, du.len ≤ i → i < j → ¬atEv g.hist.events ⟨1, (i : Int)⟩ ≥ 0) (fun j => hb.len - j) (fun _ => rfl) ?_ du.len ⟨Nat.le_refl _, h1, fun i a b => by omega⟩
  intro j ⟨hj0, hj, hpj⟩ ih
  apply exec_sound ctRXOk 300
  rw [rrca_go]
  refine ⟨fun hc1 => ⟨⟨rc, lc⟩, fun hat => ?_, fun hat => ?_⟩, fun hc1 => ⟨⟨hR, hdu, by omega⟩, fun hs1 => ?_⟩⟩
  · have hcj : j < hb.len := by have := of_decide_eq_true hc1; omega
    have hat := of_decide_eq_true hat
    refine err _ (recG_27 h0 (.inr (.inl ?_)))
    cases hany : ((ackd g.hist.writes.length g.hist.events).drop (du.to Int).length).any (fun y => decide (true = y)) with
    | true => rfl
    | false =>
      have := (rec_acked hck).1 hany j (by omega) (by omega)
      rw [g6] at this; exact absurd hat this
  · have hcj : j < hb.len := by have := of_decide_eq_true hc1; omega
    have hat := of_decide_eq_false hat
    have wj : IntKind.i64.wrap ((j : Int) + 1) = ((j + 1 : Nat) : Int) := wrap_succ hcj (by omega)
    rw [wj]
    refine ih (j + 1) ⟨by omega, hcj, fun i a b => ?_⟩ (by omega)
    by_cases e : i = j
    · subst e; rw [g6]; exact hat
    · exact hpj i a (by omega)
  have hjl : j = hb.len := by have := of_decide_eq_false hc1; omega
  subst hjl
  have hany : ((ackd g.hist.writes.length g.hist.events).drop du.len).any (fun y => decide (true = y)) = false := (rec_acked hck).2 fun i a b => hpj i a (by omega)
  have hfr := rec_done h0 hle hany
  rw [← h2] at hfr
  have hr1 := restrict_first hck hle
  have hz := recHist_zero hck hle
  rw [g1, ← h2] at hz
  generalize hA : ackd g.hist.writes.length g.hist.events = A at hfr
  refine vecIn_to 9 3 1 none 12 (rrcB ((hs1 0 0).like (restrictH (HiD.mk ha hb hc).hist (du.to Int)).1.sizes) ((hs1 0 1).like (restrictH (HiD.mk ha hb hc).hist (du.to Int)).1.writes) ((hs1 0 2).like (restrictH (HiD.mk ha hb hc).hist (du.to Int)).1.events) (.slc none 1 []) du.len 0) (by kernel_rfl) ?_
  refine runs_loop (fun u : Nat × D × D × D × D => rrcB u.2.1 u.2.2.1 u.2.2.2.1 u.2.2.2.2 du.len u.1) (fun u => u.1 ≤ du.len ∧ u.2.1.Is Int ∧ u.2.2.1.Is Wt ∧ u.2.2.2.1.Is Ev ∧ (HiD.mk u.2.1 u.2.2.1 u.2.2.2.1).hist = recHist g.hist du.len u.1 ∧ u.2.2.2.2.Is Int ∧ u.2.2.2.2.sz = 1 ∧ u.2.2.2.2.to Int = unackN A u.1) (fun u => du.len - u.1) (fun _ => rfl) ?_
    (0, (hs1 0 0).like (restrictH (HiD.mk ha hb hc).hist (du.to Int)).1.sizes, (hs1 0 1).like (restrictH (HiD.mk ha hb hc).hist (du.to Int)).1.writes, (hs1 0 2).like (restrictH (HiD.mk ha hb hc).hist (du.to Int)).1.events, .slc none 1 []) ⟨Nat.zero_le _, D.like_is _ _, D.like_is _ _, D.like_is _ _, by simp only [like_hist]; rw [g1]; exact hz.symm, is_nil _ _, rfl, rfl⟩
  rintro ⟨j, a, b, c, r⟩ ⟨hj, i1, i2, i3, i4, i5, i6, i7⟩ ih
  simp only at hj i1 i2 i3 i4 i5 i6 i7 ih ⊢
  have e1 : a.to Int = ha.to Int := by have := congrArg Hist.sizes i4; rw [← g8]; exact this
  have e2 : b.to Wt = (hb.to Wt).take du.len := by have := congrArg Hist.writes i4; rw [← g7]; exact this
  have e3 : c.to Ev = (hc.to Ev).filter (fun x => !decide (x.write ≥ (du.len : Int))) ++ (unackN A j).map (Ev.mk 1) := by have := congrArg Hist.events i4; rw [← g6, ← hA]; exact this
  have al' := D.Is.length (α := Int) a
  have bl' := D.Is.length (α := Wt) b
  have cl' := D.Is.length (α := Ev) c
  have ul : (unackN A j).length ≤ j := filtN_len
  have fl := List.length_filter_le (fun x : Ev => !decide (x.write ≥ (du.len : Int))) (hc.to Ev)
  rw [e1] at al'; rw [e2, List.length_take] at bl'; rw [e3, List.length_append, List.length_map] at cl'
  have hRj : HiD.Right ⟨a, b, c⟩ := ⟨i1, i2, i3, by simp only; omega, by simp only; omega, by simp only; omega, by simp only; rw [e2]; exact fun q hq => rd q (List.mem_of_mem_take hq)⟩
  have rl : r.len ≤ 1048576 := by rw [D.Is.length (α := Int), i7]; omega
  apply exec_sound ctRXOk 300
  rw [rrcb_go]
  refine ⟨fun hc1 => ⟨⟨i3, by omega⟩, fun hat => ⟨⟨hRj, by omega⟩, fun hs2 hs3 => ⟨apq_need i6 rl, fun hs4 => ?_⟩⟩, fun hat => ?_⟩, fun hc1 => ?_⟩
  · have hcj : j < du.len := by have := of_decide_eq_true hc1; omega
    have hh := recHist_at hck hle hcj
    rw [← i4, hA] at hh
    have hh : decide (atEv (c.to Ev) ⟨1, (j : Int)⟩ ≥ 0) = A.getD j false := hh
    have wj : IntKind.i64.wrap ((j : Int) + 1) = ((j + 1 : Nat) : Int) := wrap_succ hcj (by omega)
    have hAj : A.getD j false = false := by rw [← hh]; simpa using hat
    have hgo := recHist_go hck hle hcj (by rw [hA]; exact hAj)
    rw [wj]
    obtain ⟨q1, q2, q3⟩ := apq_is (a := D.hd (hs3 0 0)) (b := D.hd (hs4 0 0)) (z := (j : Int)) i5 i7
    refine ih (j + 1, (hs2 0 0).like (ackH (HiD.mk a b c).hist j).1.sizes, (hs2 0 1).like (ackH (HiD.mk a b c).hist j).1.writes, (hs2 0 2).like (ackH (HiD.mk a b c).hist j).1.events, _) ⟨hcj, D.like_is _ _, D.like_is _ _, D.like_is _ _, ?_, q1, q2, ?_⟩ (by simp only; omega)
    · simp only [like_hist]; rw [i4, hgo]
    · rw [q3, unack_succ, hAj, if_neg Bool.false_ne_true]
  · have hcj : j < du.len := by have := of_decide_eq_true hc1; omega
    have hh := recHist_at hck hle hcj
    rw [← i4, hA] at hh
    have hh : decide (atEv (c.to Ev) ⟨1, (j : Int)⟩ ≥ 0) = A.getD j false := hh
    have wj : IntKind.i64.wrap ((j : Int) + 1) = ((j + 1 : Nat) : Int) := wrap_succ hcj (by omega)
    have hAj : A.getD j false = true := by rw [← hh]; simpa using hat
    rw [wj]
    refine ih (j + 1, a, b, c, r) ⟨hcj, i1, i2, i3, ?_, i5, i6, ?_⟩ (by simp only; omega)
    · simp only; rw [i4]; exact (recHist_skip hck hle (by rw [hA]; exact hAj)).symm
    · simp only; rw [i7, unack_succ, hAj, if_pos rfl]
  · have hjl : j = du.len := by have := of_decide_eq_false hc1; omega
    subst hjl
    refine ret_grLI ?_ ?_ ?_
    · rw [hfr]
      refine stands_gr (stands_dat i1 rfl) (stands_dat i2 rfl) (stands_dat i3 rfl) stands_nils stands_nils (b := false) (fun _ => rfl) ?_
      rw [← i4]; rfl
    · rw [hfr]; exact stands_dat i5 i7
    · rw [hfr]
end Go.Proofs.Ytodhhmjilnfecaa
end
section
open Go Go.Proofs Sx
namespace Go.Proofs.Ytodhhmjilnfecaa
set_option maxRecDepth 100000
set_option maxHeartbeats 0
section
variable (n : Int) (a b : D)
theorem eqi_in : exec Try.prog [] 200 (entry Try.prog 18 [.dat a, .dat b]) =
 Tree.br ((↑(D.len a) : Int) != (↑(D.len b) : Int)) (.ret (.lb false))
 (.leaf
 (Conf.mk
 (SFrm.mk 18 none none
 [Item.inLoop (cAt Try.prog 18 [1, 1, 0, 1, 0, 0]), Item.inBlock 0, Item.code (cAt Try.prog 18 [1, 1, 1])]
 (mkJ 0 [(0, .dat a), (1, .dat b), (12, .int .i64 (↑(D.len a) : Int)), (13, .int .i64 0)] 0
 26))
 [] [])) := by kernel_rfl

theorem con_in : exec Try.prog [(44, ctrOf ((rdD.two rdInt).sp spIxI))] 200 (entry Try.prog 28 [.dat a, .int .i64 n]) =
 Tree.need (D.Is Int a ∧ D.len a ≤ 1048576)
 (.ret (.bool (decide ((idxG (D.to Int a) fun y => decide (n = y)) ≥ 0)))) := by kernel_rfl

end
end Go.Proofs.Ytodhhmjilnfecaa
end
section
open Go Go.Proofs Sx
namespace Go.Proofs.Ytodhhmjilnfecaa
set_option maxRecDepth 100000
set_option maxHeartbeats 0
noncomputable def eqiL (a b : D) (j : Int) : Conf := Conf.mk (SFrm.mk 18 none none [Item.inLoop (cAt Try.prog 18 [1, 1, 0, 1, 0, 0]), Item.inBlock 0, Item.code (cAt Try.prog 18 [1, 1, 1])] (mkJ 0 [(0, .dat a), (1, .dat b), (12, .int .i64 (a.len : Int)), (13, .int .i64 j)] 0 26)) [] []
section
variable (n j : Int) (a b : D)
theorem eqi_go : exec Try.prog [] 200 (unroll (eqiL a b j)) =
 Tree.br (decide (j < (↑(D.len a) : Int)))
 (.all fun hs =>
 .need (0 ≤ j ∧ j < (↑(D.len a) : Int) ∧ D.sz a = 1)
 (.need (D.HasCell a (Int.toNat j) 0 (FT.int .i64))
 (.need (0 ≤ j ∧ j < (↑(D.len b) : Int) ∧ D.sz b = 1)
 (.need (D.HasCell b (Int.toNat j) 0 (FT.int .i64))
 (.br (D.getInt a (Int.toNat j) 0 != D.getInt b (Int.toNat j) 0) (.ret (.lb false))
 (.leaf
 (Conf.mk
 (SFrm.mk 18 none none
 [Item.inLoop (cAt Try.prog 18 [1, 1, 0, 1, 0, 0]), Item.inBlock 0,
 Item.code (cAt Try.prog 18 [1, 1, 1])]
 (mkJ 0
 [(0, .dat a), (1, .dat b), (12, .int .i64 (↑(D.len a) : Int)),
 (13, .int .i64 (IntKind.wrap .i64 (j + 1)))]
 0 26))
 [] [])))))))
 (.ret (.lb true)) := by kernel_rfl

end
end Go.Proofs.Ytodhhmjilnfecaa
end
section
open Go Go.Proofs Sx
namespace Go.Proofs.Ytodhhmjilnfecaa
set_option maxRecDepth 100000

theorem lawEqI : Law Try.prog 18 ((rdD.two rdD).sp spInts) := by
  refine law_in _ (by kernel_rfl) fun H w ⟨a, b⟩ hok hp => ?_
  obtain ⟨ha, hb, hlen⟩ := hp _ (List.mem_singleton.2 rfl)
  simp only at ha hb hlen
  have hla := D.Is.length (α := Int) a
  have hlb := D.Is.length (α := Int) b
  apply exec_sound (noCtr _) 200
  rw [show (rdD.two rdD).canon (a, b) = [.dat a, .dat b] from rfl, eqi_in]
  refine ⟨fun hc => ret_lb ?_, fun hc => ?_⟩
  · exact same_not fun he => by simp [hla, hlb, he] at hc
  have hc' : (a.to Int).length = (b.to Int).length := by simp [hla, hlb] at hc; omega
  refine runs_loop (fun j : Nat => eqiL a b j) (fun j => j ≤ (a.to Int).length ∧ (a.to Int).take j = (b.to Int).take j) (fun j => (a.to Int).length - j) (fun _ => rfl) ?_ 0 ⟨Nat.zero_le _, rfl⟩
  intro j ⟨hj, hpre⟩ ih
  apply exec_sound (noCtr _) 200
  rw [eqi_go]
  refine ⟨fun hc _ => ?_, fun hc => ret_lb ?_⟩
  · have hc : j < (a.to Int).length := by have := of_decide_eq_true hc; omega
    obtain ⟨c1, c2, c3⟩ := int_at ha hc
    obtain ⟨e1, e2, e3⟩ := int_at hb (hc' ▸ hc)
    refine ⟨c1, c2, e1, e2, fun h => ret_lb ?_, fun h => ?_⟩
    · refine same_not fun he => ?_
      simp only [c3, e3, he, bne_self_eq_false] at h
      cases h
    · have hx : (a.to Int)[j] = (b.to Int)[j]'(hc' ▸ hc) := by rw [c3, e3] at h; simpa using h
      have := ih (j + 1) ⟨hc, take_succ_eq hc (hc' ▸ hc) hpre hx⟩ (by omega)
      rw [← wrap_succ hc (by omega)] at this
      exact this
  · have := of_decide_eq_false hc
    exact (decide_eq_true (list_eq_of hc' (by omega) hpre)).symm

theorem lawCon : Law Try.prog 28 ((rdD.two rdInt).sp spHasC) := by
  refine law_in _ (by kernel_rfl) fun H w ⟨a, n⟩ hok hp => ?_
  obtain ⟨ha, hlen⟩ := hp _ (List.mem_singleton.2 rfl)
  simp only at ha hlen
  apply exec_sound (cs := [(44, ctrOf ((rdD.two rdInt).sp spIxI))]) (by intro x hx; rw [List.mem_singleton.1 hx]; exact ctrOf_ok lawIxI) 200
  rw [show (rdD.two rdInt).canon (a, n) = [.dat a, .int .i64 n] from rfl, con_in]
  refine ⟨⟨ha, hlen⟩, ret_bool ?_⟩
  rw [idxG_any, List.contains_eq_any_beq]
  congr 1
theorem lawEqIS : Law Try.prog 18 ((rdD.two rdD).sp spIntsS) :=
  law_sure lawEqI fun b => ⟨_, _, _, rfl, rfl, fun hp => by
    obtain ⟨h1, h2, h3, h4⟩ := hp _ (List.mem_singleton.2 rfl)
    exact ⟨fun p hp' => by rw [List.mem_singleton.1 hp']; exact ⟨h1, h2, h3⟩, decide_eq_true h4⟩⟩
end Go.Proofs.Ytodhhmjilnfecaa
end
section
open Go
namespace Sx
noncomputable def grP (ds : Nat → D) (g : Gr) : SV := .agg [.dat (pI (ds 0) g.hist.sizes), .dat (pW (ds 1) g.hist.writes), .dat (pE (ds 2) g.hist.events), .dat (pI (ds 3) g.waiting), .dat (pI (ds 4) g.held), .bool g.frozen]
def grL (x : GrD) : Bool := hiL x.h && (setL x.wt && setL x.hd)
theorem grL_is {x : GrD} (h : grL x = true) : x.Right := by
  simp only [grL, Bool.and_eq_true] at h
  obtain ⟨a, b, c⟩ := h
  exact ⟨hiL_is a, (setL_is b).1, (setL_is c).1, (setL_is b).2, (setL_is c).2⟩
def wtL (x : WtD) : Bool := x.d.allSec && decide (x.d.len ≤ 1048576)
theorem wtL_is {x : WtD} (h : wtL x = true) : x.Ok := by
  simp only [wtL, Bool.and_eq_true, decide_eq_true_eq] at h
  exact ⟨allSec_is h.1, h.2⟩
def w1 : Wt := ⟨0, 0, [oneS]⟩
def G0 : Gr := ⟨⟨[4], [], []⟩, [], [], false⟩
def G1 : Gr := ⟨⟨[4], [w1], [⟨0, 0⟩]⟩, [0], [], false⟩
def G2 : Gr := ⟨⟨[4], [w1, w1], [⟨0, 0⟩, ⟨0, 1⟩]⟩, [0, 1], [], false⟩
def G3 : Gr := ⟨⟨[4], [w1, w1, w1], [⟨0, 0⟩, ⟨0, 1⟩, ⟨0, 2⟩]⟩, [0, 1, 2], [], false⟩
def G4 : Gr := ⟨⟨[4], [w1, w1, w1], [⟨0, 0⟩, ⟨0, 1⟩, ⟨0, 2⟩, ⟨1, 0⟩]⟩, [1, 2], [], false⟩
def G5 : Gr := ⟨⟨[4], [w1, w1, w1], [⟨0, 0⟩, ⟨0, 1⟩, ⟨0, 2⟩, ⟨1, 0⟩]⟩, [1, 2], [], true⟩
def G6 : Gr := ⟨⟨[4], [w1, w1, w1], [⟨0, 0⟩, ⟨0, 1⟩, ⟨0, 2⟩, ⟨1, 0⟩]⟩, [2], [1], true⟩
def G7 : Gr := ⟨⟨[4], [w1, w1, w1, w1], [⟨0, 0⟩, ⟨0, 1⟩, ⟨0, 2⟩, ⟨1, 0⟩, ⟨0, 3⟩]⟩, [2, 3], [1], true⟩
def G8 : Gr := ⟨⟨[4], [w1, w1, w1, w1], [⟨0, 0⟩, ⟨0, 1⟩, ⟨0, 2⟩, ⟨1, 0⟩, ⟨0, 3⟩]⟩, [2], [1, 3], true⟩
def G9 : Gr := ⟨⟨[4], [w1, w1, w1, w1], [⟨0, 0⟩, ⟨0, 1⟩, ⟨0, 2⟩, ⟨1, 0⟩, ⟨0, 3⟩, ⟨1, 1⟩, ⟨1, 3⟩]⟩, [2], [], false⟩
def G10 : Gr := ⟨⟨[4], [w1, w1, w1, w1], [⟨0, 0⟩, ⟨0, 1⟩, ⟨0, 2⟩, ⟨1, 0⟩, ⟨0, 3⟩, ⟨1, 1⟩, ⟨1, 3⟩, ⟨1, 2⟩]⟩, [], [], false⟩
noncomputable def spNewT (x : D) : SpecR := iff (setL x) (tabD (newG (x.to Int)) [(G0, 0)] fun r => .data [] fun ds => .tup [grP ds r.1, .int .i64 r.2])
noncomputable def spIssT (x : GrD × WtD) : SpecR := iff (grL x.1 && (decide (x.1.h.e.len ≤ 1000000) && wtL x.2)) (tabD (issueG x.1.gr x.2.wt) [(G1, 0, 0), (G2, 1, 0), (G3, 2, 0), (G7, 3, 0)] fun r => .data [] fun ds => .tup [grP ds r.1, .int .i64 r.2.1, .int .i64 r.2.2])
noncomputable def spDurT (x : GrD × Int) : SpecR := iff (grL x.1) (tabD (durG x.1.gr x.2) [(G4, [0], 0), (G6, [], 0), (G8, [], 0)] fun r => .data [] fun ds => .tup [grP ds r.1, .dat (pI (ds 5) r.2.1), .int .i64 r.2.2])
noncomputable def spFrzT (x : GrD) : SpecR := iff (grL x) (tabD (freezeG x.gr) [(G5, 3, 0)] fun r => .data [] fun ds => .tup [grP ds r.1, .int .i64 r.2.1, .int .i64 r.2.2])
noncomputable def spThawT (x : GrD) : SpecR := iff (grL x) (tabD (thawG x.gr) [(G9, [1, 3], 0)] fun r => .data [] fun ds => .tup [grP ds r.1, .dat (pI (ds 5) r.2.1), .int .i64 r.2.2])
noncomputable def spRecT (x : GrD × D) : SpecR := iff (grL x.1 && setL x.2) (tabD (recoverG x.1.gr (x.2.to Int)) [(G10, [2], 0), (zGr, [], 27)] fun r => .data [] fun ds => .tup [grP ds r.1, .dat (pI (ds 5) r.2.1), .int .i64 r.2.2])
end Sx
end
section
open Go Go.Proofs Sx
namespace Go.Proofs.Ytodhhmjilnfecaa
set_option maxRecDepth 100000
noncomputable def dsP (ds : Nat → D) (g : Gr) (l : List Int) : Nat → D := fun i => match i with | 0 => (ds 0).like g.hist.sizes | 1 => (ds 1).like g.hist.writes | 2 => (ds 2).like g.hist.events | 3 => (ds 3).like g.waiting | 4 => (ds 4).like g.held | _ => (ds 5).like l
theorem grP_dsP (ds : Nat → D) (g : Gr) (l : List Int) : grP (dsP ds g l) g = grSV ds g := by
  simp only [grP, grSV, dsP, pI, pW, pE, plain_like]
theorem pI_dsP (ds : Nat → D) (g : Gr) (l : List Int) : pI (dsP ds g l 5) l = (ds 5).like l := by simp only [dsP, pI, plain_like]
theorem lawNewT : Law Try.prog 25 (rdD.one.sp spNewT) :=
  law_tab lawNewG _ _ _ _ fun b h => ⟨_, _, rfl, fun _ p hp => by rw [List.mem_singleton.1 hp]; exact setL_is h, fun ds => ⟨dsP ds (newG (b.to Int)).1 [], by simp only [grP_dsP]⟩⟩
theorem lawIssT : Law Try.prog 13 ((rdGr.two rdWt).sp spIssT) :=
  law_tab lawIssueG _ _ _ _ fun b h => ⟨_, _, rfl, fun _ p hp => by
    rw [List.mem_singleton.1 hp]
    simp only [Bool.and_eq_true, decide_eq_true_eq] at h
    exact ⟨grL_is h.1, h.2.1, wtL_is h.2.2⟩, fun ds => ⟨dsP ds (issueG b.1.gr b.2.wt).1 [], by simp only [grP_dsP]⟩⟩
theorem lawDurT : Law Try.prog 15 ((rdGr.two rdInt).sp spDurT) :=
  law_tab lawDurG _ _ _ _ fun b h => ⟨_, _, rfl, fun _ p hp => by rw [List.mem_singleton.1 hp]; exact grL_is h, fun ds => ⟨dsP ds (durG b.1.gr b.2).1 (durG b.1.gr b.2).2.1, by simp only [grP_dsP, pI_dsP]⟩⟩
theorem lawFrzT : Law Try.prog 19 (rdGr.one.sp spFrzT) :=
  law_tab lawFrzG _ _ _ _ fun b h => ⟨_, _, rfl, fun _ p hp => by rw [List.mem_singleton.1 hp]; exact grL_is h, fun ds => ⟨dsP ds (freezeG b.gr).1 [], by simp only [grP_dsP]⟩⟩
theorem lawThawT : Law Try.prog 21 (rdGr.one.sp spThawT) :=
  law_tab lawThawG _ _ _ _ fun b h => ⟨_, _, rfl, fun _ p hp => by rw [List.mem_singleton.1 hp]; exact grL_is h, fun ds => ⟨dsP ds (thawG b.gr).1 (thawG b.gr).2.1, by simp only [grP_dsP, pI_dsP]⟩⟩
theorem lawRecT : Law Try.prog 23 ((rdGr.two rdD).sp spRecT) :=
  law_tab lawRecG _ _ _ _ fun b h => ⟨_, _, rfl, fun _ p hp => by
    rw [List.mem_singleton.1 hp]
    simp only [Bool.and_eq_true] at h
    exact ⟨grL_is h.1, setL_is h.2⟩, fun ds => ⟨dsP ds (recoverG b.1.gr (b.2.to Int)).1 (recoverG b.1.gr (b.2.to Int)).2.1, by simp only [grP_dsP, pI_dsP]⟩⟩
noncomputable def ctTG : Ctrs := [(25, ctrOf (rdD.one.sp spNewT)), (13, ctrOf ((rdGr.two rdWt).sp spIssT)), (15, ctrOf ((rdGr.two rdInt).sp spDurT)), (19, ctrOf (rdGr.one.sp spFrzT)), (21, ctrOf (rdGr.one.sp spThawT)), (23, ctrOf ((rdGr.two rdD).sp spRecT)), (18, ctrOf ((rdD.two rdD).sp spIntsS))]
theorem ctTGOk : Ctrs.Ok Try.prog ctTG := by
  intro x hx
  simp only [ctTG, List.mem_cons, List.not_mem_nil, or_false] at hx
  rcases hx with rfl | rfl | rfl | rfl | rfl | rfl | rfl
  · exact ctrOf_ok lawNewT
  · exact ctrOf_ok lawIssT
  · exact ctrOf_ok lawDurT
  · exact ctrOf_ok lawFrzT
  · exact ctrOf_ok lawThawT
  · exact ctrOf_ok lawRecT
  · exact ctrOf_ok lawEqIS
end Go.Proofs.Ytodhhmjilnfecaa
end
section
open Go Go.Proofs Sx
namespace Go.Proofs.Ytodhhmjilnfecaa
set_option maxRecDepth 100000
set_option maxHeartbeats 0
section
theorem awake_in : (execU Try.prog ctTG (fun _ => true) 900 (entry Try.prog 12 [])).dec =
 Tree.all fun hs =>
 .all fun hs =>
 .all fun hs =>
 .all fun hs =>
 .all fun hs =>
 .all fun hs =>
 .all fun hs =>
 .all fun hs_1 =>
 .all fun hs_2 =>
 .all fun hs_3 =>
 .all fun hs_4 =>
 .all fun hs_5 =>
 .all fun hs_6 =>
 .all fun hs_7 =>
 .all fun hs_8 =>
 .all fun hs_9 =>
 .all fun hs_10 =>
 .need
 (D.Is Int (pI (hs 0 5) [0]) ∧
 D.Is Int (D.slc (D.hd (hs_10 0 0)) 1 [[D.int .i64 0]]) ∧
 D.len (pI (hs 0 5) [0]) ≤ 1048576 ∧
 D.to Int (pI (hs 0 5) [0]) =
 D.to Int (D.slc (D.hd (hs_10 0 0)) 1 [[D.int .i64 0]]))
 (.all fun hs =>
 .need
 (D.Is Int (pI (hs_5 0 5) [1, 3]) ∧
 D.Is Int
 (D.slc (D.hd (hs 0 0)) 1 [[D.int .i64 1], [D.int .i64 3]]) ∧
 D.len (pI (hs_5 0 5) [1, 3]) ≤ 1048576 ∧
 D.to Int (pI (hs_5 0 5) [1, 3]) =
 D.to Int
 (D.slc (D.hd (hs 0 0)) 1
 [[D.int .i64 1], [D.int .i64 3]]))
 (.all fun hs =>
 .need
 (D.Is Int (pI (hs_5 0 3) [2]) ∧
 D.Is Int (D.slc (D.hd (hs 0 0)) 1 [[D.int .i64 2]]) ∧
 D.len (pI (hs_5 0 3) [2]) ≤ 1048576 ∧
 D.to Int (pI (hs_5 0 3) [2]) =
 D.to Int (D.slc (D.hd (hs 0 0)) 1 [[D.int .i64 2]]))
 (.all fun hs =>
 .need
 (D.Is Int (pI (hs_7 0 5) [2]) ∧
 D.Is Int (D.slc (D.hd (hs 0 0)) 1 [[D.int .i64 2]]) ∧
 D.len (pI (hs_7 0 5) [2]) ≤ 1048576 ∧
 D.to Int (pI (hs_7 0 5) [2]) =
 D.to Int (D.slc (D.hd (hs 0 0)) 1 [[D.int .i64 2]]))
 (.ret
 (.bool
 (decide
 ((↑(D.len
 (pE (hs_7 0 2)
 [Ev.mk 0 0, Ev.mk 0 1, Ev.mk 0 2, Ev.mk 1 0, Ev.mk 0 3,
 Ev.mk 1 1, Ev.mk 1 3, Ev.mk 1 2])) :
 Int) =
 8))))))) := by kernel_rfl

end
end Go.Proofs.Ytodhhmjilnfecaa
end
section
open Go Go.Proofs Sx
namespace Sx
def spSameGS (x : GrD × GrD) : SpecR := .scalar [x.1.Right ∧ x.2.h.s.Is Int ∧ x.2.h.w.Is Wt ∧ x.2.h.e.Is Ev ∧ x.2.wt.Is Int ∧ x.2.hd.Is Int ∧ x.1.gr = x.2.gr] (.lb true)
end Sx
namespace Go.Proofs.Ytodhhmjilnfecaa
set_option maxRecDepth 100000
set_option maxHeartbeats 0
theorem lawAwakeG : Law Try.prog 12 (rdNone.sp spTrue) := by
  refine law_in _ (by kernel_rfl) fun H w _ hok hp => ?_
  refine dec_sound ctTGOk (fun _ => true) 900 (entry Try.prog 12 []) awake_in ?_
  repeat' first
    | with_reducible refine holds_all.2 fun _ => ?_
    | refine holds_need.2 ⟨⟨allInt_is rfl, allInt_is rfl, Nat.le_of_ble_eq_true rfl, rfl⟩, ?_⟩
    | exact ret_sure rfl
theorem lawSameGS : Law Try.prog 17 ((rdGr.two rdGr).sp spSameGS) :=
  law_sure lawSameG fun b => ⟨_, _, _, rfl, rfl, fun hp => by
    obtain ⟨h1, h2, h3, h4, h5, h6, h7⟩ := hp _ (List.mem_singleton.2 rfl)
    exact ⟨fun p hp' => by rw [List.mem_singleton.1 hp']; exact ⟨h1, h2, h3, h4, h5, h6⟩, decide_eq_true h7⟩⟩
noncomputable def ctLG : Ctrs := [(11, ctrOf (rdGr.one.sp spFewG)), (12, ctrOf (rdNone.sp spTrue)), (17, ctrOf ((rdGr.two rdGr).sp spSameGS)), (18, ctrOf ((rdD.two rdD).sp spIntsS)),
  (25, ctrOf (rdD.one.sp spNewG)), (29, ctrOf (rdD.one.sp spNewG)), (30, ctrOf (rdGr.one.sp spCkG)), (31, ctrOf (rdGr.one.sp spCkG)),
  (13, ctrOf ((rdGr.two rdWt).sp spIssueG)), (14, ctrOf ((rdGr.two rdWt).sp spIssueG)), (15, ctrOf ((rdGr.two rdInt).sp spDurG)), (16, ctrOf ((rdGr.two rdInt).sp spDurR)),
  (19, ctrOf (rdGr.one.sp spFrzG)), (20, ctrOf (rdGr.one.sp spFrzG)), (21, ctrOf (rdGr.one.sp spThawG)), (22, ctrOf (rdGr.one.sp spThawR)),
  (23, ctrOf ((rdGr.two rdD).sp spRecG)), (24, ctrOf ((rdGr.two rdD).sp spRecR))]
theorem ctLGOk : Ctrs.Ok Try.prog ctLG := by
  intro x hx
  simp only [ctLG, List.mem_cons, List.not_mem_nil, or_false] at hx
  rcases hx with rfl | rfl | rfl | rfl | rfl | rfl | rfl | rfl | rfl | rfl | rfl | rfl | rfl | rfl | rfl | rfl | rfl | rfl
  · exact ctrOf_ok lawFewG
  · exact ctrOf_ok lawAwakeG
  · exact ctrOf_ok lawSameGS
  · exact ctrOf_ok lawEqIS
  · exact ctrOf_ok lawNewG
  · exact ctrOf_ok lawNewGR
  · exact ctrOf_ok lawCkG
  · exact ctrOf_ok lawRkG
  · exact ctrOf_ok lawIssueG
  · exact ctrOf_ok lawIssGR
  · exact ctrOf_ok lawDurG
  · exact ctrOf_ok lawDurGR
  · exact ctrOf_ok lawFrzG
  · exact ctrOf_ok lawFrzGR
  · exact ctrOf_ok lawThawG
  · exact ctrOf_ok lawThawGR
  · exact ctrOf_ok lawRecG
  · exact ctrOf_ok lawRecGR
end Go.Proofs.Ytodhhmjilnfecaa
end
section
open Go Go.Proofs Sx
namespace Go.Proofs.Ytodhhmjilnfecaa
set_option maxRecDepth 100000
set_option maxHeartbeats 0
section
variable (ha hb hc wt hd d : D) (fz : Bool) (v s n : Int)




end
end Go.Proofs.Ytodhhmjilnfecaa
end
section
open Go Go.Proofs Sx
namespace Sx
def spGMakes (x : D × GrD) : SpecR := .scalar [x.2.h.s.Is Int ∧ x.2.h.w.Is Wt ∧ x.2.h.e.Is Ev ∧ x.2.wt.Is Int ∧ x.2.hd.Is Int ∧ x.1.Is Int] (.lb true)
def spGIssues (x : GrD × WtD × Int) : SpecR := .scalar [x.1.h.s.Is Int ∧ x.1.h.w.Is Wt ∧ x.1.h.e.Is Ev ∧ x.1.wt.Is Int ∧ x.1.hd.Is Int ∧ x.2.1.d.Is Sec] (.lb true)
def spGFreezes (x : GrD) : SpecR := .scalar [x.h.s.Is Int ∧ x.h.w.Is Wt ∧ x.h.e.Is Ev ∧ x.wt.Is Int ∧ x.hd.Is Int] (.lb true)
def spGRecovers (x : GrD × D) : SpecR := .scalar [x.1.h.s.Is Int ∧ x.1.h.w.Is Wt ∧ x.1.h.e.Is Ev ∧ x.1.wt.Is Int ∧ x.1.hd.Is Int ∧ x.2.Is Int] (.lb true)
end Sx
namespace Go.Proofs.Ytodhhmjilnfecaa
set_option maxRecDepth 100000
set_option maxHeartbeats 0
end Go.Proofs.Ytodhhmjilnfecaa
end
section
open Go Go.Proofs Sx
namespace Go.Proofs.Ytodhhmjilnfecaa
set_option maxRecDepth 100000
set_option maxHeartbeats 0
noncomputable def ctRun : Ctrs := (34, ctrOf (rdInt.one.sp spFst)) :: ctLG
section
variable (ha hb hc wt hd d e : D) (fz : Bool) (k v s n : Int)
theorem run_in : 
 let z1 := (durG (GrD.gr (GrD.mk (HiD.mk ha hb hc) wt hd fz)) (D.getInt wt (Int.toNat (Int.tmod (if n > 0 then n else 0) (↑(D.len wt) : Int))) 0))
 let z2 := (firstN (Int.tmod (if n > 0 then n else 0) (IntKind.wrap .i64 ((↑(D.len hb) : Int) + 1))))
 let z3 := (issueG (GrD.gr (GrD.mk (HiD.mk ha hb hc) wt hd fz)) (WtD.wt (WtD.mk v s d)))
 let z4 : Tree := (.ret (SV.tup [.agg [.dat ha, .dat hb, .dat hc, .dat wt, .dat hd, .bool fz], .nils]))
 let z5 := (Prod.fst (freezeG (GrD.gr (GrD.mk (HiD.mk ha hb hc) wt hd fz))))
 let z6 := (Prod.fst (thawG (GrD.gr (GrD.mk (HiD.mk ha hb hc) wt hd fz))))
 exec Try.prog ctRun 400 (entry Try.prog 27 [.agg [.dat ha, .dat hb, .dat hc, .dat wt, .dat hd, .bool fz], .agg [.int .i64 k, .int .i64 v, .int .i64 s, .dat d, .int .i64 n]]) =
 Tree.br (decide (k = 0)) (.need (GrD.Right (GrD.mk (HiD.mk ha hb hc) wt hd fz) ∧ D.len hc ≤ 1000000 ∧ WtD.Ok (WtD.mk v s d)) (.all fun hs => .br (Prod.snd (Prod.snd z3) != 0) z4 (.ret (SV.tup [.agg [.dat
 (D.like (hs 0 0) (Hist.sizes (Gr.hist (Prod.fst z3)))), .dat (D.like (hs 0 1) (Hist.writes (Gr.hist (Prod.fst z3)))), .dat (D.like (hs 0 2) (Hist.events (Gr.hist (Prod.fst z3)))), .dat (D.like (hs 0 3)
 (Gr.waiting (Prod.fst z3))), .dat (D.like (hs 0 4) (Gr.held (Prod.fst z3))), .bool (Gr.frozen (Prod.fst z3))], .nils])))) (.br (decide (k = 1)) (.br (decide ((↑(D.len wt) : Int) = 0)) z4 (.all fun hs => .need
 ((↑(D.len wt) : Int) ≠ 0) (.need (0 ≤ Int.tmod (if n > 0 then n else 0) (↑(D.len wt) : Int) ∧ Int.tmod (if n > 0 then n else 0) (↑(D.len wt) : Int) < (↑(D.len wt) : Int) ∧ D.sz wt = 1) (.need (D.HasCell wt
 (Int.toNat (Int.tmod (if n > 0 then n else 0) (↑(D.len wt) : Int))) 0 (FT.int .i64)) (.need (GrD.Right (GrD.mk (HiD.mk ha hb hc) wt hd fz)) (.br (Prod.snd (Prod.snd z1) != 0) z4 (.ret (SV.tup [.agg [.dat
 (D.like (hs 12 0) (Hist.sizes (Gr.hist (Prod.fst z1)))), .dat (D.like (hs 12 1) (Hist.writes (Gr.hist (Prod.fst z1)))), .dat (D.like (hs 12 2) (Hist.events (Gr.hist (Prod.fst z1)))), .dat (D.like (hs 12 3)
 (Gr.waiting (Prod.fst z1))), .dat (D.like (hs 12 4) (Gr.held (Prod.fst z1))), .bool (Gr.frozen (Prod.fst z1))], .dat (D.like (hs 12 5) (Prod.fst (Prod.snd z1)))])))))))) (.br (decide (k = 2)) (.need (GrD.Right
 (GrD.mk (HiD.mk ha hb hc) wt hd fz)) (.all fun hs => .br (Prod.snd (Prod.snd (freezeG (GrD.gr (GrD.mk (HiD.mk ha hb hc) wt hd fz)))) != 0) z4 (.ret (SV.tup [.agg [.dat (D.like (hs 0 0) (Hist.sizes (Gr.hist z5))), .dat
 (D.like (hs 0 1) (Hist.writes (Gr.hist z5))), .dat (D.like (hs 0 2) (Hist.events (Gr.hist z5))), .dat (D.like (hs 0 3) (Gr.waiting z5)), .dat (D.like (hs 0 4) (Gr.held z5)), .bool (Gr.frozen z5)], .nils]))))
 (.br (decide (k = 3)) (.need (GrD.Right (GrD.mk (HiD.mk ha hb hc) wt hd fz)) (.all fun hs => .br (Prod.snd (Prod.snd (thawG (GrD.gr (GrD.mk (HiD.mk ha hb hc) wt hd fz)))) != 0) z4 (.ret (SV.tup [.agg [.dat
 (D.like (hs 0 0) (Hist.sizes (Gr.hist z6))), .dat (D.like (hs 0 1) (Hist.writes (Gr.hist z6))), .dat (D.like (hs 0 2) (Hist.events (Gr.hist z6))), .dat (D.like (hs 0 3) (Gr.waiting z6)), .dat (D.like (hs 0 4)
 (Gr.held z6)), .bool (Gr.frozen z6)], .dat (D.like (hs 0 5) (Prod.fst (Prod.snd (thawG (GrD.gr (GrD.mk (HiD.mk ha hb hc) wt hd fz))))))])))) (.all fun hs => .need (IntKind.wrap .i64 ((↑(D.len hb) : Int) + 1) ≠ 0)
 (.need (Int.tmod (if n > 0 then n else 0) (IntKind.wrap .i64 ((↑(D.len hb) : Int) + 1)) ≤ 1000000) (.need (GrD.Right (GrD.mk (HiD.mk ha hb hc) wt hd fz) ∧ D.Is Int (D.like (hs 10 0) z2) ∧ D.len (D.like
 (hs 10 0) z2) ≤ 1048576) (.br (Prod.snd (Prod.snd (recoverG (GrD.gr (GrD.mk (HiD.mk ha hb hc) wt hd fz)) (D.to Int (D.like (hs 10 0) z2)))) != 0) z4 (.ret (SV.tup [.agg [.dat (D.like (hs 11 0) (Hist.sizes
 (Gr.hist (Prod.fst (recoverG (GrD.gr (GrD.mk (HiD.mk ha hb hc) wt hd fz)) (D.to Int (D.like (hs 10 0) z2))))))), .dat (D.like (hs 11 1) (Hist.writes (Gr.hist (Prod.fst (recoverG (GrD.gr (GrD.mk (HiD.mk ha hb hc) wt hd fz))
 (D.to Int (D.like (hs 10 0) z2))))))), .dat (D.like (hs 11 2) (Hist.events (Gr.hist (Prod.fst (recoverG (GrD.gr (GrD.mk (HiD.mk ha hb hc) wt hd fz)) (D.to Int (D.like (hs 10 0) z2))))))), .dat (D.like
 (hs 11 3) (Gr.waiting (Prod.fst (recoverG (GrD.gr (GrD.mk (HiD.mk ha hb hc) wt hd fz)) (D.to Int (D.like (hs 10 0) z2)))))), .dat (D.like (hs 11 4) (Gr.held (Prod.fst (recoverG (GrD.gr (GrD.mk (HiD.mk ha hb hc) wt hd fz))
 (D.to Int (D.like (hs 10 0) z2)))))), .bool (Gr.frozen (Prod.fst (recoverG (GrD.gr (GrD.mk (HiD.mk ha hb hc) wt hd fz)) (D.to Int (D.like (hs 10 0) z2)))))], .dat (D.like (hs 11 5) (Prod.fst (Prod.snd
 (recoverG (GrD.gr (GrD.mk (HiD.mk ha hb hc) wt hd fz)) (D.to Int (D.like (hs 10 0) z2))))))]))))))))) := by
 intros; kernel_rfl

theorem ackd_in : exec Try.prog [] 200 (entry Try.prog 32 [.agg [.dat ha, .dat hb, .dat hc]]) =
 Tree.leaf
 (Conf.mk
 (SFrm.mk 32 none none
 [Item.inLoop (cAt Try.prog 32 [1, 1, 0, 1, 0, 0]), Item.inBlock 0, Item.code (cAt Try.prog 32 [1, 1, 1])]
 (mkJ 0 [(3, .nils), (7, .dat hc), (8, .int .i64 (↑(D.len hc) : Int)), (9, .int .i64 0)] 0
 23))
 [] []) := by kernel_rfl


theorem ixs_in : exec Try.prog [] 200 (entry Try.prog 93 [.dat d, .fn 63 [] []]) =
 Tree.leaf
 (Conf.mk
 (SFrm.mk 93 none none
 [Item.inLoop (cAt Try.prog 93 [1, 0, 1, 0, 0]), Item.inBlock 0, Item.code (cAt Try.prog 93 [1, 1])]
 (mkJ 0 [(0, .dat d), (1, SV.fn 63 [] []), (7, .int .i64 (↑(D.len d) : Int)), (8, .int .i64 0)]
 0 19))
 [] []) := by kernel_rfl

theorem ixn_in : exec Try.prog [] 200 (entry Try.prog 71 [.dat d, .fn 61 [] []]) =
 Tree.leaf
 (Conf.mk
 (SFrm.mk 71 none none
 [Item.inLoop (cAt Try.prog 71 [1, 0, 1, 0, 0]), Item.inBlock 0, Item.code (cAt Try.prog 71 [1, 1])]
 (mkJ 0 [(0, .dat d), (1, SV.fn 61 [] []), (7, .int .i64 (↑(D.len d) : Int)), (8, .int .i64 0)]
 0 19))
 [] []) := by kernel_rfl

end
end Go.Proofs.Ytodhhmjilnfecaa
end
section
open Go Go.Proofs Sx
namespace Go.Proofs.Ytodhhmjilnfecaa
set_option maxRecDepth 100000
set_option maxHeartbeats 0
noncomputable def ixsL (d : D) (j : Int) : Conf := Conf.mk (SFrm.mk 93 none none [Item.inLoop (cAt Try.prog 93 [1, 0, 1, 0, 0]), Item.inBlock 0, Item.code (cAt Try.prog 93 [1, 1])] (mkJ 0 [(0, .dat d), (1, SV.fn 63 [] []), (7, .int .i64 (d.len : Int)), (8, .int .i64 j)] 0 19)) [] []
noncomputable def ixnL (d : D) (j : Int) : Conf := Conf.mk (SFrm.mk 71 none none [Item.inLoop (cAt Try.prog 71 [1, 0, 1, 0, 0]), Item.inBlock 0, Item.code (cAt Try.prog 71 [1, 1])] (mkJ 0 [(0, .dat d), (1, SV.fn 61 [] []), (7, .int .i64 (d.len : Int)), (8, .int .i64 j)] 0 19)) [] []
noncomputable def ackL (d r : D) (j : Int) : Conf := Conf.mk (SFrm.mk 32 none none [Item.inLoop (cAt Try.prog 32 [1, 1, 0, 1, 0, 0]), Item.inBlock 0, Item.code (cAt Try.prog 32 [1, 1, 1])] (mkJ 0 [(3, .vec 0), (7, .dat d), (8, .int .i64 (d.len : Int)), (9, .int .i64 j)] 0 23)) [] [(0, .arr 3 r)]
section
variable (d r : D) (j : Int)
theorem ixs_go : exec Try.prog [] 200 (unroll (ixsL d j)) =
 Tree.br (decide (j < (↑(D.len d) : Int)))
 (.need (0 ≤ j ∧ j < (↑(D.len d) : Int) ∧ D.sz d = 5)
 (.need
 (D.HasCells d (Int.toNat j) 0
 [FT.int .i64, FT.int .i64, FT.int .i64, FT.slc, FT.int .i64])
 (.br (decide ((↑(D.len (D.cell d (Int.toNat j) 3)) : Int) > 30)) (.ret (.int .i64 j))
 (.leaf
 (Conf.mk
 (SFrm.mk 93 none none
 [Item.inLoop (cAt Try.prog 93 [1, 0, 1, 0, 0]), Item.inBlock 0, Item.code (cAt Try.prog 93 [1, 1])]
 (mkJ 0
 [(0, .dat d), (1, SV.fn 63 [] []), (7, .int .i64 (↑(D.len d) : Int)),
 (8, .int .i64 (IntKind.wrap .i64 (j + 1)))]
 0 19))
 [] [])))))
 (.ret (.int .i64 (Int.neg 1))) := by kernel_rfl

theorem ixn_go : exec Try.prog [] 200 (unroll (ixnL d j)) =
 Tree.br (decide (j < (↑(D.len d) : Int)))
 (.need (0 ≤ j ∧ j < (↑(D.len d) : Int) ∧ D.sz d = 1)
 (.need (D.HasCell d (Int.toNat j) 0 (FT.int .i64))
 (.br (decide (D.getInt d (Int.toNat j) 0 > 24)) (.ret (.int .i64 j))
 (.leaf
 (Conf.mk
 (SFrm.mk 71 none none
 [Item.inLoop (cAt Try.prog 71 [1, 0, 1, 0, 0]), Item.inBlock 0, Item.code (cAt Try.prog 71 [1, 1])]
 (mkJ 0
 [(0, .dat d), (1, SV.fn 61 [] []), (7, .int .i64 (↑(D.len d) : Int)),
 (8, .int .i64 (IntKind.wrap .i64 (j + 1)))]
 0 19))
 [] [])))))
 (.ret (.int .i64 (Int.neg 1))) := by kernel_rfl

theorem ackl_go : exec Try.prog [] 200 (unroll (ackL d r j)) =
 Tree.br (decide (j < (↑(D.len d) : Int)))
 (.need (0 ≤ j ∧ j < (↑(D.len d) : Int) ∧ D.sz d = 2)
 (.need (D.HasCells d (Int.toNat j) 0 [FT.int .i64, FT.int .i64])
 (.br (decide (D.getInt d (Int.toNat j) 0 = 1))
 (.all fun hs =>
 .need
 (D.sz r = 1 ∧
 D.Fits (D.slc (D.hd (hs 0 0)) 1 [[D.int .i64 (D.getInt d (Int.toNat j) 1)]]) 1 ∧
 (D.len r + D.len (D.slc (D.hd (hs 0 0)) 1 [[D.int .i64 (D.getInt d (Int.toNat j) 1)]])) * 8 ≤
 140737488355328 ∧
 D.len r + D.len (D.slc (D.hd (hs 0 0)) 1 [[D.int .i64 (D.getInt d (Int.toNat j) 1)]]) ≤
 9223372036854775807)
 (.all fun hs_1 =>
 .leaf
 (Conf.mk
 (SFrm.mk 32 none none
 [Item.inLoop (cAt Try.prog 32 [1, 1, 0, 1, 0, 0]), Item.inBlock 0,
 Item.code (cAt Try.prog 32 [1, 1, 1])]
 (mkJ 0
 [(3, .vec 0), (7, .dat d), (8, .int .i64 (↑(D.len d) : Int)),
 (9, .int .i64 (IntKind.wrap .i64 (j + 1)))]
 0 23))
 []
 [(0,
 OBlk.arr 3
 (D.slc (D.hd (hs_1 0 0)) 1
 (List.append (D.rows r)
 (D.rows (D.slc (D.hd (hs 0 0)) 1 [[D.int .i64 (D.getInt d (Int.toNat j) 1)]])))))])))
 (.leaf
 (Conf.mk
 (SFrm.mk 32 none none
 [Item.inLoop (cAt Try.prog 32 [1, 1, 0, 1, 0, 0]), Item.inBlock 0, Item.code (cAt Try.prog 32 [1, 1, 1])]
 (mkJ 0
 [(3, .vec 0), (7, .dat d), (8, .int .i64 (↑(D.len d) : Int)),
 (9, .int .i64 (IntKind.wrap .i64 (j + 1)))]
 0 23))
 [] [(0, OBlk.arr 3 r)])))))
 (.ret (.dat r)) := by kernel_rfl

end
end Go.Proofs.Ytodhhmjilnfecaa
end
section
open Go
namespace Sx
structure StD where
  k : Int
  w : WtD
  n : Int
def StD.st (x : StD) : St := ⟨x.k, x.w.wt, x.n⟩
def rdSt : Rd1 StD where
  read x := match x with
    | .agg [.int .i64 k, .int .i64 v, .int .i64 s, d, .int .i64 n] => match rdD.read d with
      | some d => some ⟨k, ⟨v, s, d⟩, n⟩
      | none => none
    | _ => none
  canon x := .agg [.int .i64 x.k, .int .i64 x.w.v, .int .i64 x.w.s, .dat x.w.d, .int .i64 x.n]
  right H E x b h hok := by
    split at h
    · split at h
      · rename_i h1
        cases h
        obtain ⟨_, _, _, a4, _, _⟩ := hok
        obtain ⟨i1, i2⟩ := rdD.right H E _ _ h1 a4
        refine ⟨?_, trivial, trivial, trivial, i2, trivial, trivial⟩
        simp only [SV.den, SV.denL, i1]
        rfl
      · cases h
    · cases h
theorem pick_int {n : Int} {m : Nat} (hm : 0 < m) : Int.tmod (if n > 0 then n else 0) (m : Int) = (pickI n m : Int) := by
  unfold pickI
  have e : (if n > 0 then n else 0) = ((max 0 n).toNat : Int) := by split <;> omega
  rw [e, ← Int.ofNat_tmod]
theorem pick_lt {n : Int} {m : Nat} (hm : 0 < m) : pickI n m < m := Nat.mod_lt _ hm
def fewS (s : List Int) (l : List St) : Bool := decide (l.length ≤ 40) && (decide (s.length ≤ 8) && (!(s.any fun n => decide (n > 24)) && !(l.any fun x => decide (x.wt.data.length > 30))))
def spIxN (x : D × Unit) : SpecR := .scalar [x.1.Is Int ∧ x.1.len ≤ 1048576] (.int .i64 (idxG (x.1.to Int) fun n => decide (n > 24)))
def spIxS (x : D × Unit) : SpecR := .scalar [x.1.Is St ∧ x.1.len ≤ 1048576] (.int .i64 (idxG (x.1.to St) fun s => decide (s.wt.data.length > 30)))
def spFewS (x : D × D) : SpecR := .scalar [x.1.Is Int ∧ x.2.Is St] (.bool (fewS (x.1.to Int) (x.2.to St)))
noncomputable def spAcks (x : HiD) : SpecR := .data [x.e.Is Ev ∧ x.e.len ≤ 1048576] fun ds => .dat ((ds 0).like (acksOf (x.e.to Ev)))
noncomputable def spRun (x : GrD × StD) : SpecR := .data [x.1.Right ∧ x.1.h.e.len ≤ 900000 ∧ x.1.h.w.len ≤ 900000 ∧ x.2.w.Ok] fun ds => .tup [grSV ds (runG x.1.gr x.2.st).1, .dat ((ds 5).like (runG x.1.gr x.2.st).2)]
theorem acksOf_take {l : List Ev} {j : Nat} (hj : j < l.length) : acksOf (l.take (j + 1)) = if l[j].kind = 1 then acksOf (l.take j) ++ [l[j].write] else acksOf (l.take j) := by
  rw [List.take_succ_eq_append_getElem hj, acksOf_app]
  unfold acksOf
  by_cases h : l[j].kind = 1
  · rw [if_pos h, List.filter_cons, if_pos (by simpa using h)]; rfl
  · rw [if_neg h, List.filter_cons, if_neg (by simpa using h)]; simp
theorem acksOf_len (l : List Ev) : (acksOf l).length ≤ l.length := by
  unfold acksOf; rw [List.length_map]; exact List.length_filter_le _ _
theorem st_cell {d : D} (hd : d.Is St) {j : Nat} (hj : j < (d.to St).length) : d.HasCells j 0 [.int .i64, .int .i64, .int .i64, .slc, .int .i64] ∧ (d.cell j 3).Is Sec ∧ d.getInt j 0 = ((d.to St)[j]).kind ∧ (StD.mk (d.getInt j 0) ⟨d.getInt j 1, d.getInt j 2, d.cell j 3⟩ (d.getInt j 4)).st = (d.to St)[j] := by
  obtain ⟨r, h1, ⟨k, v, s, x, n, rfl, hx⟩, h3⟩ := hd.row hj
  obtain ⟨a, b, c, rfl, _⟩ := hx.slc
  rw [h3]
  refine ⟨⟨⟨k, by simp [D.cellAt, h1]⟩, ⟨v, by simp [D.cellAt, h1]⟩, ⟨s, by simp [D.cellAt, h1]⟩, ⟨a, b, c, by simp [D.cellAt, h1]⟩, ⟨n, by simp [D.cellAt, h1]⟩, trivial⟩, ?_, ?_, ?_⟩
  · simpa [D.cell, D.cellAt, h1] using hx
  · simp [D.getInt, D.cellAt, h1, Codec.dec]
  · simp [StD.st, WtD.wt, D.getInt, D.cell, D.cellAt, h1, Codec.dec]
end Sx
namespace Sx
def spSizes0 (x : D) : SpecR := .scalar [x.Is Int] (.int .i64 (sizesErr (x.to Int)))
noncomputable def spNewI0 (x : D) : SpecR := .data [x.Is Int] fun ds => .tup [.dat ((ds 0).like (imgOf (x.to Int))), .int .i64 (sizesErr (x.to Int))]
noncomputable def spNewH0 (x : D) : SpecR := .data [x.Is Int] fun ds => .tup [hiSV ds (newH (x.to Int)).1, .int .i64 (newH (x.to Int)).2]
noncomputable def spNewG0 (x : D) : SpecR := .data [x.Is Int] fun ds => .tup [grSV ds (newG (x.to Int)).1, .int .i64 (newG (x.to Int)).2]
end Sx
end
section
open Go Go.Proofs Sx
namespace Go.Proofs.Ytodhhmjilnfecaa
set_option maxRecDepth 100000
set_option maxHeartbeats 0
noncomputable def ctFw : Ctrs := [(71, ctrOf ((rdD.two (rdFn 61)).sp spIxN)), (93, ctrOf ((rdD.two (rdFn 63)).sp spIxS))]
section
variable (d e : D)
theorem few_in1 : exec Try.prog ctFw 300 (entry Try.prog 26 [.dat d, .dat e]) =
 Tree.br (decide ((↑(D.len e) : Int) ≤ 40))
 (.br (decide ((↑(D.len d) : Int) ≤ 8))
 (.need (D.Is Int d ∧ D.len d ≤ 1048576)
 (.br (!decide ((idxG (D.to Int d) fun n => decide (n > 24)) ≥ 0))
 (.need (D.Is St e ∧ D.len e ≤ 1048576)
 (.ret (.bool !decide ((idxG (D.to St e) fun s => decide (List.length (Wt.data (St.wt s)) > 30)) ≥ 0))))
 (.ret (.lb false))))
 (.ret (.lb false)))
 (.ret (.lb false)) := by kernel_rfl

end
end Go.Proofs.Ytodhhmjilnfecaa
end
section
open Go Go.Proofs Sx
namespace Go.Proofs.Ytodhhmjilnfecaa
set_option maxRecDepth 100000
set_option maxHeartbeats 0
theorem lawIxN : Law Try.prog 71 ((rdD.two (rdFn 61)).sp spIxN) := by
  refine law_in _ (by kernel_rfl) fun H w ⟨d, u⟩ hok hp => ?_
  obtain ⟨hd, hlen⟩ := hp _ (List.mem_singleton.2 rfl)
  simp only at hd hlen
  have hl := D.Is.length (α := Int) d
  apply exec_sound (noCtr _) 200
  rw [show (rdD.two (rdFn 61)).canon (d, u) = [.dat d, .fn 61 [] []] from rfl, ixn_in]
  refine runs_loop (fun j : Nat => ixnL d j) (fun j => j ≤ (d.to Int).length ∧ ((d.to Int).take j).findIdx? (fun n => decide (n > 24)) = none) (fun j => (d.to Int).length - j) (fun _ => rfl) ?_ 0 ⟨Nat.zero_le _, by simp⟩
  intro j ⟨hj, hpre⟩ ih
  apply exec_sound (noCtr _) 200
  rw [ixn_go]
  refine ⟨fun hc => ?_, fun hc => ret_int ?_⟩
  · have hc : j < (d.to Int).length := by have := of_decide_eq_true hc; omega
    obtain ⟨c1, c2, c3⟩ := int_at hd hc
    rw [c3]
    refine ⟨c1, c2, fun h => ret_int ?_, fun h => ?_⟩
    · exact (idxG_hit hc hpre h).symm
    · have := ih (j + 1) ⟨hc, idxG_miss hc hpre h⟩ (by omega)
      rw [← wrap_succ hc (by omega)] at this
      exact this
  · have : j = (d.to Int).length := by have := of_decide_eq_false hc; omega
    subst this
    exact (idxG_none hpre).symm
theorem lawIxS : Law Try.prog 93 ((rdD.two (rdFn 63)).sp spIxS) := by
  refine law_in _ (by kernel_rfl) fun H w ⟨d, u⟩ hok hp => ?_
  obtain ⟨hd, hlen⟩ := hp _ (List.mem_singleton.2 rfl)
  simp only at hd hlen
  have hl := D.Is.length (α := St) d
  apply exec_sound (noCtr _) 200
  rw [show (rdD.two (rdFn 63)).canon (d, u) = [.dat d, .fn 63 [] []] from rfl, ixs_in]
  refine runs_loop (fun j : Nat => ixsL d j) (fun j => j ≤ (d.to St).length ∧ ((d.to St).take j).findIdx? (fun s => decide (s.wt.data.length > 30)) = none) (fun j => (d.to St).length - j) (fun _ => rfl) ?_ 0 ⟨Nat.zero_le _, by simp⟩
  intro j ⟨hj, hpre⟩ ih
  apply exec_sound (noCtr _) 200
  rw [ixs_go]
  refine ⟨fun hc => ?_, fun hc => ret_int ?_⟩
  · have hc : j < (d.to St).length := by have := of_decide_eq_true hc; omega
    obtain ⟨c1, c2, _, c3⟩ := st_cell hd hc
    have e : decide (((D.cell d (Int.toNat (j : Int)) 3).len : Int) > 30) = decide (((d.to St)[j]).wt.data.length > 30) := by
      rw [← c3, decide_eq_decide, Int.toNat_natCast, D.Is.length (α := Sec)]
      show ((((d.cell j 3).to Sec).length : Int) > 30) ↔ ((d.cell j 3).to Sec).length > 30
      omega
    rw [e]
    refine ⟨⟨by omega, by omega, hd.size hc⟩, c1, fun h => ret_int ?_, fun h => ?_⟩
    · exact (idxG_hit hc hpre h).symm
    · have := ih (j + 1) ⟨hc, idxG_miss hc hpre h⟩ (by omega)
      rw [← wrap_succ hc (by omega)] at this
      exact this
  · have : j = (d.to St).length := by have := of_decide_eq_false hc; omega
    subst this
    exact (idxG_none hpre).symm
theorem ctFwOk : Ctrs.Ok Try.prog ctFw := by
  intro x hx
  simp only [ctFw, List.mem_cons, List.not_mem_nil, or_false] at hx
  rcases hx with rfl | rfl
  · exact ctrOf_ok lawIxN
  · exact ctrOf_ok lawIxS
theorem lawFewS : Law Try.prog 26 ((rdD.two rdD).sp spFewS) := by
  refine law_in _ (by kernel_rfl) fun H w ⟨d, e⟩ hok hp => ?_
  obtain ⟨hd, he⟩ := hp _ (List.mem_singleton.2 rfl)
  simp only at hd he
  have dl := D.Is.length (α := Int) d
  have el := D.Is.length (α := St) e
  apply exec_sound ctFwOk 300
  rw [show (rdD.two rdD).canon (d, e) = [.dat d, .dat e] from rfl, few_in1]
  have q1 : decide ((e.len : Int) ≤ 40) = decide ((e.to St).length ≤ 40) := by rw [el, decide_eq_decide]; omega
  have q2 : decide ((d.len : Int) ≤ 8) = decide ((d.to Int).length ≤ 8) := by rw [dl, decide_eq_decide]; omega
  have q3 := idxG_any (d.to Int) (fun n => decide (n > 24))
  have q4 := idxG_any (e.to St) (fun s => decide (s.wt.data.length > 30))
  show (Tree.br _ _ _).holds _ _ (RetS w H (.bool (decide ((e.to St).length ≤ 40) && (decide ((d.to Int).length ≤ 8) && (!((d.to Int).any fun n => decide (n > 24)) && !((e.to St).any fun x => decide (x.wt.data.length > 30)))))))
  rw [← q1, ← q2, ← q3, ← q4]
  refine ⟨fun h1 => ⟨fun h2 => ⟨⟨hd, by have := of_decide_eq_true h2; omega⟩, fun h3 => ⟨⟨he, by have := of_decide_eq_true h1; omega⟩, ret_bool ?_⟩, fun h3 => ret_lb ?_⟩, fun h2 => ret_lb ?_⟩, fun h1 => ret_lb ?_⟩
  · rw [h1, h2, h3]; simp
  · have h3 := h3; rw [h1, h2]; simp at h3 ⊢; intro h; omega
  · rw [h1, h2]; rfl
  · rw [h1]; rfl
theorem lawAcks : Law Try.prog 32 (rdHi.one.sp spAcks) := by
  refine law_in _ (by kernel_rfl) fun H w ⟨ha, hb, d⟩ hok hp => ?_
  obtain ⟨hd, hlen⟩ := hp _ (List.mem_singleton.2 rfl)
  simp only at hd hlen
  have dl := D.Is.length (α := Ev) d
  apply exec_sound (noCtr _) 200
  rw [show rdHi.one.canon ⟨ha, hb, d⟩ = [.agg [.dat ha, .dat hb, .dat d]] from rfl, ackd_in]
  refine vecIn_to 9 3 1 none 3 (ackL d (.slc none 1 []) 0) (by kernel_rfl) ?_
  refine runs_loop (fun s : D × Nat => ackL d s.1 s.2) (fun s => s.2 ≤ (d.to Ev).length ∧ s.1.Is Int ∧ s.1.sz = 1 ∧ s.1.to Int = acksOf ((d.to Ev).take s.2)) (fun s => (d.to Ev).length - s.2) (fun _ => rfl) ?_ (_, 0) ⟨Nat.zero_le _, is_nil _ _, rfl, rfl⟩
  rintro ⟨r, j⟩ ⟨hj, r1, r2, r3⟩ ih
  simp only at hj r1 r2 r3 ih ⊢
  have rl : r.len ≤ 1048576 := by
    rw [D.Is.length (α := Int), r3]
    have := acksOf_len ((d.to Ev).take j)
    rw [List.length_take] at this; omega
  apply exec_sound (noCtr _) 200
  rw [ackl_go]
  refine ⟨fun hc => ?_, fun hc => ?_⟩
  · have hc : j < (d.to Ev).length := by have := of_decide_eq_true hc; omega
    obtain ⟨c1, c2, c3⟩ := ev_cell hd hc
    have wj : IntKind.i64.wrap ((j : Int) + 1) = ((j + 1 : Nat) : Int) := wrap_succ hc (by omega)
    have sn := acksOf_take hc
    rw [wj, Int.toNat_natCast j, c2, c3]
    refine ⟨⟨by omega, by omega, hd.size hc⟩, c1, fun hz hs => ⟨apq_need r2 rl, fun hs1 => ?_⟩, fun hz => ?_⟩
    · rw [if_pos (of_decide_eq_true hz)] at sn
      obtain ⟨i1, i2, i3⟩ := apq_is (a := D.hd (hs 0 0)) (b := D.hd (hs1 0 0)) (z := ((d.to Ev)[j]).write) r1 r3
      exact ih (_, j + 1) ⟨hc, i1, i2, i3.trans sn.symm⟩ (by simp only; omega)
    · rw [if_neg (of_decide_eq_false hz)] at sn
      exact ih (r, j + 1) ⟨hc, r1, r2, r3.trans sn.symm⟩ (by simp only; omega)
  · have hc := of_decide_eq_false hc
    have : j = (d.to Ev).length := by omega
    subst this
    rw [List.take_length] at r3
    have e := D.like_self r1 r3
    exact ret_D (fun _ => r) (fun E E' => by simp only [e, SV.den]) (fun H' h => by simp only [e]; exact h)
theorem ctRunOk : Ctrs.Ok Try.prog ctRun := by
  intro x hx
  rcases List.mem_cons.1 hx with rfl | hx
  · exact ctrOf_ok lawFst
  · exact ctLGOk _ hx
end Go.Proofs.Ytodhhmjilnfecaa
end
section
open Go Go.Proofs Sx
namespace Sx
theorem ret_run {P : Program} {w : World} {H : HV} {X L : SV} {g : Gr} {l : List Int} (h : StandsG X g) (hl : Stands Int L l) : (Tree.ret (.tup [X, L])).holds P ⟨w, H⟩ (RetD w H fun ds => .tup [grSV ds g, .dat ((ds 5).like l)]) := by
  obtain ⟨ds, h1, h2⟩ := h.ex
  obtain ⟨d, k1, k2, k3, k4⟩ := hl
  refine ret_D (fun i => if i = 5 then d else ds i) (fun E E' => ?_) (fun H' ho => ?_)
  · simp only [SV.den, SV.denL, h1 E]; simp [grSV, SV.den, SV.denL, D.like_self k2 k3, k1]
  · simp only [SV.Ok, SV.OkL] at ho ⊢
    have h3 := h2 H' ho.1
    simp only [grSV, SV.Ok, SV.OkL] at h3 ⊢
    simp [D.like_self k2 k3]
    exact ⟨⟨h3.1, h3.2.1, h3.2.2.1, h3.2.2.2.1, h3.2.2.2.2.1⟩, k4 _ ho.2.1, k2.slc⟩
theorem stands_likeG {ds : Nat → D} {g : Gr} : StandsG (.agg [.dat ((ds 0).like g.hist.sizes), .dat ((ds 1).like g.hist.writes), .dat ((ds 2).like g.hist.events), .dat ((ds 3).like g.waiting), .dat ((ds 4).like g.held), .bool g.frozen]) g :=
  stands_gr stands_like stands_like stands_like stands_like stands_like (fun _ => rfl) rfl
theorem stands_selfG {ha hb hc wt hd : D} {fz : Bool} (hx : GrD.Right ⟨⟨ha, hb, hc⟩, wt, hd, fz⟩) : StandsG (.agg [.dat ha, .dat hb, .dat hc, .dat wt, .dat hd, .bool fz]) (GrD.gr ⟨⟨ha, hb, hc⟩, wt, hd, fz⟩) :=
  stands_gr (stands_dat hx.1.1 rfl) (stands_dat hx.1.2.1 rfl) (stands_dat hx.1.2.2.1 rfl) (stands_dat hx.2.1 rfl) (stands_dat hx.2.2.1 rfl) (fun _ => rfl) rfl
end Sx
namespace Go.Proofs.Ytodhhmjilnfecaa
set_option maxRecDepth 100000
set_option maxHeartbeats 0
theorem lawRun : Law Try.prog 27 ((rdGr.two rdSt).sp spRun) := by
  refine law_in _ (by kernel_rfl) fun H w ⟨⟨⟨ha, hb, hc⟩, wt, hd, fz⟩, ⟨k, ⟨v, s, d⟩, n⟩⟩ hok hp => ?_
  obtain ⟨hx, hE, hWl, hW⟩ := hp _ (List.mem_singleton.2 rfl)
  have hx : GrD.Right ⟨⟨ha, hb, hc⟩, wt, hd, fz⟩ := hx
  have hE : hc.len ≤ 900000 := hE
  have hWl : hb.len ≤ 900000 := hWl
  have hW : WtD.Ok ⟨v, s, d⟩ := hW
  obtain ⟨hR, rw', rh, lw, lh⟩ := id hx
  simp only at hR rw' rh lw lh
  have wl := D.Is.length (α := Int) wt
  have bl := D.Is.length (α := Wt) hb
  apply exec_sound ctRunOk 400
  rw [show (rdGr.two rdSt).canon (⟨⟨ha, hb, hc⟩, wt, hd, fz⟩, ⟨k, ⟨v, s, d⟩, n⟩) = [.agg [.dat ha, .dat hb, .dat hc, .dat wt, .dat hd, .bool fz], .agg [.int .i64 k, .int .i64 v, .int .i64 s, .dat d, .int .i64 n]] from rfl, run_in]
  have hself := stands_selfG hx
  have g5 : (GrD.gr ⟨⟨ha, hb, hc⟩, wt, hd, fz⟩).hist.writes.length = hb.len := bl.symm
  have g6 : (GrD.gr ⟨⟨ha, hb, hc⟩, wt, hd, fz⟩).waiting = wt.to Int := rfl
  generalize hg : GrD.gr ⟨⟨ha, hb, hc⟩, wt, hd, fz⟩ = g at hself g5 g6 ⊢
  show Tree.holds _ _ (RetD w H fun ds => .tup [grSV ds (runG g ⟨k, WtD.wt ⟨v, s, d⟩, n⟩).1, .dat ((ds 5).like (runG g ⟨k, WtD.wt ⟨v, s, d⟩, n⟩).2)]) _
  generalize hr : runG g ⟨k, WtD.wt ⟨v, s, d⟩, n⟩ = r
  unfold runG at hr
  simp only at hr
  refine ⟨fun k0 => ⟨⟨hx, by omega, hW⟩, fun hs => ⟨fun he => ?_, fun he => ?_⟩⟩, fun k0 => ⟨fun k1 => ⟨fun h0 => ?_, fun h0 hs => ?_⟩, fun k1 => ⟨fun k2 => ⟨hx, fun hs => ⟨fun he => ?_, fun he => ?_⟩⟩, fun k2 => ⟨fun k3 => ⟨hx, fun hs => ⟨fun he => ?_, fun he => ?_⟩⟩, fun k3 hs => ?_⟩⟩⟩⟩
  · have k0 := of_decide_eq_true k0
    rw [if_pos k0, if_pos (by simpa using he)] at hr
    rw [← hr]; exact ret_run hself stands_nils
  · have k0 := of_decide_eq_true k0
    rw [if_pos k0, if_neg (by simpa using he)] at hr
    rw [← hr]; exact ret_run (stands_likeG (ds := hs 0)) stands_nils
  · have k0 := of_decide_eq_false k0
    have k1 := of_decide_eq_true k1
    have h0 := of_decide_eq_true h0
    rw [if_neg k0, if_pos k1, if_pos (by rw [g6]; omega)] at hr
    rw [← hr]; exact ret_run hself stands_nils
  · have k0 := of_decide_eq_false k0
    have k1 := of_decide_eq_true k1
    have h0 := of_decide_eq_false h0
    have hpos : 0 < wt.len := by omega
    have hpk := pick_int (n := n) hpos
    have hlt := pick_lt (n := n) hpos
    have hpl : pickI n wt.len < (wt.to Int).length := by omega
    obtain ⟨c1, c2, c3⟩ := int_at rw' (j := pickI n wt.len) hpl
    have c4 : (wt.to Int)[pickI n wt.len] = g.waiting.getD (pickI n g.waiting.length) 0 := by
      rw [g6, show pickI n (wt.to Int).length = pickI n wt.len by rw [wl]]
      exact (getD_lt hpl).symm
    rw [if_neg k0, if_pos k1, if_neg (by rw [g6]; omega)] at hr
    rw [hpk, c3, c4]
    refine ⟨h0, c1, c2, hx, fun he => ?_, fun he => ?_⟩
    · rw [if_pos (by simpa using he)] at hr
      rw [← hr]; exact ret_run hself stands_nils
    · rw [if_neg (by simpa using he)] at hr
      rw [← hr]; exact ret_run (stands_likeG (ds := hs 12)) stands_like
  · have k0 := of_decide_eq_false k0
    have k1 := of_decide_eq_false k1
    have k2 := of_decide_eq_true k2
    rw [if_neg k0, if_neg k1, if_pos k2, if_pos (by simpa using he)] at hr
    rw [← hr]; exact ret_run hself stands_nils
  · have k0 := of_decide_eq_false k0
    have k1 := of_decide_eq_false k1
    have k2 := of_decide_eq_true k2
    rw [if_neg k0, if_neg k1, if_pos k2, if_neg (by simpa using he)] at hr
    rw [← hr]; exact ret_run (stands_likeG (ds := hs 0)) stands_nils
  · have k0 := of_decide_eq_false k0
    have k1 := of_decide_eq_false k1
    have k2 := of_decide_eq_false k2
    have k3 := of_decide_eq_true k3
    rw [if_neg k0, if_neg k1, if_neg k2, if_pos k3, if_pos (by simpa using he)] at hr
    rw [← hr]; exact ret_run hself stands_nils
  · have k0 := of_decide_eq_false k0
    have k1 := of_decide_eq_false k1
    have k2 := of_decide_eq_false k2
    have k3 := of_decide_eq_true k3
    rw [if_neg k0, if_neg k1, if_neg k2, if_pos k3, if_neg (by simpa using he)] at hr
    rw [← hr]; exact ret_run (stands_likeG (ds := hs 0)) stands_like
  · have k0 := of_decide_eq_false k0
    have k1 := of_decide_eq_false k1
    have k2 := of_decide_eq_false k2
    have k3 := of_decide_eq_false k3
    have hw1 : IntKind.i64.wrap ((hb.len : Int) + 1) = ((hb.len + 1 : Nat) : Int) := by rw [wrap64 (by omega) (by omega)]; omega
    have hpk := pick_int (n := n) (m := hb.len + 1) (by omega)
    have hlt := pick_lt (n := n) (m := hb.len + 1) (by omega)
    rw [if_neg k0, if_neg k1, if_neg k2, if_neg k3, g5] at hr
    rw [hw1, hpk]
    show Tree.holds _ _ _ (Tree.need _ _)
    rw [D.like_to]
    refine ⟨by omega, by omega, ⟨hx, D.like_is _ _, by rw [llen, firstN_len]; omega⟩, fun he => ?_, fun he => ?_⟩
    · rw [if_pos (by simpa using he)] at hr
      rw [← hr]; exact ret_run hself stands_nils
    · rw [if_neg (by simpa using he)] at hr
      rw [← hr]; exact ret_run (stands_likeG (ds := hs 11)) stands_like
end Go.Proofs.Ytodhhmjilnfecaa
end
section
open Go Go.Proofs Sx
namespace Go.Proofs.Ytodhhmjilnfecaa
set_option maxRecDepth 100000
set_option maxHeartbeats 0
noncomputable def ctS0 : Ctrs := [(97, ctrOf (rdD.one.sp spSizes0)), (98, ctrOf ((rdD.two (rdFn 99)).sp spMapN))]
noncomputable def ctH0 : Ctrs := [(72, ctrOf (rdD.one.sp spNewI0)), (78, oCtr (spClone Int 3))]
noncomputable def ctG0 : Ctrs := [(60, ctrOf (rdD.one.sp spNewH0))]
section
variable (d : D)
theorem new0_in : exec Try.prog ctS0 200 (entry Try.prog 72 [.dat d]) =
 Tree.need (D.Is Int d)
 (.br (sizesErr (D.to Int d) != 0) (.ret (SV.tup [.nils, .int .i64 (sizesErr (D.to Int d))]))
 (.need (D.Is Int d ∧ D.len d ≤ 8 ∧ ∀ (n : Int), List.Mem n (D.to Int d) → 0 ≤ n ∧ n ≤ 4096)
 (.all fun hs =>
 .ret (SV.tup [.dat (D.like (hs 0 0) (List.map volOf (D.to Int d))), .int .i64 0])))) := by kernel_rfl

theorem nw0_in : exec Try.prog ctH0 300 (entry Try.prog 60 [.dat d]) =
 Tree.need (D.Is Int d)
 (.all fun hs =>
 .br (sizesErr (D.to Int d) != 0)
 (.ret (SV.tup [.agg [.nils, .nils, .nils], .int .i64 (sizesErr (D.to Int d))]))
 (.need (D.Is Int d ∧ D.len d ≤ 1048576)
 (.all fun hs =>
 .ret
 (SV.tup [.agg [.dat (D.slc (D.hd (hs 0 0)) 1 (D.rows d)), .nils, .nils], .int .i64 0])))) := by kernel_rfl

theorem nwg0_in : exec Try.prog ctG0 200 (entry Try.prog 25 [.dat d]) =
 Tree.need (D.Is Int d)
 (.all fun hs =>
 .br (Prod.snd (newH (D.to Int d)) != 0)
 (.ret
 (SV.tup
 [.agg [.nils, .nils, .nils, .nils, .nils, .lb false],
 .int .i64 (Prod.snd (newH (D.to Int d)))]))
 (.ret
 (SV.tup
 [.agg
 [.dat (D.like (hs 0 0) (Hist.sizes (Prod.fst (newH (D.to Int d))))),
 .dat (D.like (hs 0 1) (Hist.writes (Prod.fst (newH (D.to Int d))))),
 .dat (D.like (hs 0 2) (Hist.events (Prod.fst (newH (D.to Int d))))), .nils, .nils, .lb false],
 .int .i64 0]))) := by kernel_rfl

end
end Go.Proofs.Ytodhhmjilnfecaa
end
section
open Go Go.Proofs Sx
namespace Go.Proofs.Ytodhhmjilnfecaa
set_option maxRecDepth 100000
theorem lawSizes0 : Law Try.prog 97 (rdD.one.sp spSizes0) := by
  refine law_in _ (by kernel_rfl) fun H w d hok hp => ?_
  have hd : d.Is Int := hp _ (List.mem_singleton.2 rfl)
  have hl := D.Is.length (α := Int) d
  apply exec_sound ctAnyOk 200
  rw [show rdD.one.canon d = [.dat d] from rfl, cs_in]
  refine ⟨fun hc => ret_int ?_, fun hc => ⟨fun hc2 => ret_int ?_, fun hc2 => ⟨⟨hd, by have := of_decide_eq_false hc2; omega⟩, fun h => ret_int ?_, fun h => ret_int ?_⟩⟩⟩
  · have := of_decide_eq_true hc; unfold sizesErr; rw [if_pos (by omega)]
  · have := of_decide_eq_true hc2; unfold sizesErr; rw [if_pos (by omega)]
  · have := of_decide_eq_false hc; have := of_decide_eq_false hc2; unfold sizesErr; rw [if_neg (by omega), if_pos h]
  · have := of_decide_eq_false hc; have := of_decide_eq_false hc2; unfold sizesErr; rw [if_neg (by omega), if_neg (by simp [h])]
theorem ctS0Ok : Ctrs.Ok Try.prog ctS0 := by
  intro x hx
  rcases List.mem_cons.1 hx with rfl | hx
  · exact ctrOf_ok lawSizes0
  · rw [List.mem_singleton.1 hx]; exact ctrOf_ok lawMapN
theorem lawNewI0 : Law Try.prog 72 (rdD.one.sp spNewI0) := by
  refine law_in _ (by kernel_rfl) fun H w d hok hp => ?_
  have hd : d.Is Int := hp _ (List.mem_singleton.2 rfl)
  have hl := D.Is.length (α := Int) d
  apply exec_sound ctS0Ok 200
  rw [show rdD.one.canon d = [.dat d] from rfl, new0_in]
  refine ⟨hd, fun h => ?_, fun h => ?_⟩
  · refine ret_oneI stands_nils ?_ rfl
    unfold imgOf
    rw [if_pos (by simpa using h)]
  · have h0 : sizesErr (d.to Int) = 0 := by simpa using h
    obtain ⟨s1, s2, s3⟩ := sizesErr_ok h0
    refine ⟨⟨hd, by omega, fun n hn => by have := s3 n hn; omega⟩, fun hs => ret_oneI stands_like ?_ h0.symm⟩
    unfold imgOf
    rw [if_neg (by simp [h0])]
theorem ctH0Ok : Ctrs.Ok Try.prog ctH0 := by
  intro x hx
  rcases List.mem_cons.1 hx with rfl | hx
  · exact ctrOf_ok lawNewI0
  · rw [List.mem_singleton.1 hx]; exact oCtr_ok lawCl1
theorem lawNewH0 : Law Try.prog 60 (rdD.one.sp spNewH0) := by
  refine law_in _ (by kernel_rfl) fun H w d hok hp => ?_
  have hd : d.Is Int := hp _ (List.mem_singleton.2 rfl)
  have hl := D.Is.length (α := Int) d
  apply exec_sound ctH0Ok 300
  rw [show rdD.one.canon d = [.dat d] from rfl, nw0_in]
  refine ⟨hd, fun hs => ⟨fun h => ?_, fun h => ?_⟩⟩
  · have h : sizesErr (d.to Int) ≠ 0 := by simpa using h
    exact ret_hiI (s := []) (ws := []) (es := []) stands_nils stands_nils stands_nils (by unfold newH; rw [if_pos h]; rfl) (by unfold newH; rw [if_pos h])
  · have h : ¬(sizesErr (d.to Int) ≠ 0) := by simpa using h
    have h0 : sizesErr (d.to Int) = 0 := by simpa using h
    have := (sizes_len h0).1
    refine ⟨⟨hd, by omega⟩, fun hs1 => ?_⟩
    obtain ⟨x1, x2⟩ := slc_same hd (D.hd (hs1 0 0)) (s := 1) rfl
    exact ret_hiI (stands_dat x1 x2) stands_nils stands_nils (by unfold newH; rw [if_neg h]) (by unfold newH; rw [if_neg h])
theorem ctG0Ok : Ctrs.Ok Try.prog ctG0 := by
  intro x hx; rw [List.mem_singleton.1 hx]; exact ctrOf_ok lawNewH0
theorem lawNewG0 : Law Try.prog 25 (rdD.one.sp spNewG0) := by
  refine law_in _ (by kernel_rfl) fun H w d hok hp => ?_
  have hd : d.Is Int := hp _ (List.mem_singleton.2 rfl)
  apply exec_sound ctG0Ok 200
  rw [show rdD.one.canon d = [.dat d] from rfl, nwg0_in]
  refine ⟨hd, fun hs => ⟨fun he => ?_, fun he => ?_⟩⟩
  · have he := newG_err (s := d.to Int) (by simpa using he)
    refine ret_grI ?_ ?_
    · rw [he]; exact stands_zG fun _ => rfl
    · rw [he]
  · have he := newG_ok (s := d.to Int) (by simpa using he)
    refine ret_grI ?_ ?_
    · rw [he]; exact stands_gr stands_like stands_like stands_like stands_nils stands_nils (fun _ => rfl) rfl
    · rw [he]
end Go.Proofs.Ytodhhmjilnfecaa
end
section
open Go Go.Proofs Sx
namespace Go.Proofs.Ytodhhmjilnfecaa
noncomputable def ctLS : Ctrs := (25, ctrOf (rdD.one.sp spNewG0)) :: (27, ctrOf ((rdGr.two rdSt).sp spRun)) :: (26, ctrOf ((rdD.two rdD).sp spFewS)) :: (32, ctrOf (rdHi.one.sp spAcks)) :: (34, ctrOf (rdInt.one.sp spFst)) ::
  (33, ctrOf ((rdHi.two rdD).sp spCls)) :: (28, ctrOf ((rdD.two rdInt).sp spHasC)) :: ctLG
theorem ctLSOk : Ctrs.Ok Try.prog ctLS := by
  intro x hx
  rcases List.mem_cons.1 hx with rfl | hx
  · exact ctrOf_ok lawNewG0
  rcases List.mem_cons.1 hx with rfl | hx
  · exact ctrOf_ok lawRun
  rcases List.mem_cons.1 hx with rfl | hx
  · exact ctrOf_ok lawFewS
  rcases List.mem_cons.1 hx with rfl | hx
  · exact ctrOf_ok lawAcks
  rcases List.mem_cons.1 hx with rfl | hx
  · exact ctrOf_ok lawFst
  rcases List.mem_cons.1 hx with rfl | hx
  · exact ctrOf_ok lawCls
  rcases List.mem_cons.1 hx with rfl | hx
  · exact ctrOf_ok lawCon
  · exact ctLGOk x hx
end Go.Proofs.Ytodhhmjilnfecaa
end
section
open Go Go.Proofs Sx
namespace Go.Proofs.Ytodhhmjilnfecaa
set_option maxRecDepth 100000
set_option maxHeartbeats 0
section
variable (d e l : D) (k : Int)
theorem acc_in : exec Try.prog ctLS 400 (entry Try.prog 8 [.dat d, .dat l]) =
 Tree.need (D.Is Int d)
 (.all fun hs =>
 .need (D.Is Int d ∧ D.Is St l)
 (.br (!fewS (D.to Int d) (D.to St l)) (.ret (.lb true))
 (.br (Prod.snd (newG (D.to Int d)) != 0) (.ret (.lb true))
 (.leaf
 (Conf.mk
 (SFrm.mk 8 none none
 [Item.inLoop (cAt Try.prog 8 [1, 1, 1, 0, 1, 0, 0]), Item.inBlock 0,
 Item.code (cAt Try.prog 8 [1, 1, 1, 1])]
 (mkJ 0
 [(5, .ptr 0 0), (28, .dat l), (29, .int .i64 (↑(D.len l) : Int)),
 (30, .int .i64 0)]
 0 124))
 []
 [(0,
 OBlk.cells 28
 [.dat (D.like (hs 0 0) (Hist.sizes (Gr.hist (Prod.fst (newG (D.to Int d)))))),
 .dat (D.like (hs 0 1) (Hist.writes (Gr.hist (Prod.fst (newG (D.to Int d)))))),
 .dat (D.like (hs 0 2) (Hist.events (Gr.hist (Prod.fst (newG (D.to Int d)))))),
 .dat (D.like (hs 0 3) (Gr.waiting (Prod.fst (newG (D.to Int d))))),
 .dat (D.like (hs 0 4) (Gr.held (Prod.fst (newG (D.to Int d))))),
 .bool (Gr.frozen (Prod.fst (newG (D.to Int d))))])]))))) := by kernel_rfl



end
end Go.Proofs.Ytodhhmjilnfecaa
end
section
open Go Go.Proofs Sx
namespace Go.Proofs.Ytodhhmjilnfecaa
set_option maxRecDepth 100000
set_option maxHeartbeats 0
noncomputable def grM (a b c x y : D) (z : Bool) : Mem := [(0, OBlk.cells 28 [.dat a, .dat b, .dat c, .dat x, .dat y, .bool z])]
noncomputable def accL (l a b c x y : D) (z : Bool) (j : Int) : Conf := Conf.mk (SFrm.mk 8 none none [Item.inLoop (cAt Try.prog 8 [1, 1, 1, 0, 1, 0, 0]), Item.inBlock 0, Item.code (cAt Try.prog 8 [1, 1, 1, 1])] (mkJ 0 [(5, .ptr 0 0), (28, .dat l), (29, .int .i64 (l.len : Int)), (30, .int .i64 j)] 0 124)) [] (grM a b c x y z)
noncomputable def holL (e l a b c x y : D) (z : Bool) (j : Int) : Conf := Conf.mk (SFrm.mk 6 none none [Item.inLoop (cAt Try.prog 6 [1, 1, 1, 0, 1, 0, 0]), Item.inBlock 0, Item.code (cAt Try.prog 6 [1, 1, 1, 1])] (mkJ 0 [(2, .dat l), (7, .ptr 0 0), (40, .dat e), (41, .int .i64 (e.len : Int)), (42, .int .i64 j)] 0 127)) [] (grM a b c x y z)
noncomputable def cutL (e l a b c x y : D) (z : Bool) (j : Int) : Conf := Conf.mk (SFrm.mk 9 none none [Item.inLoop (cAt Try.prog 9 [1, 1, 1, 0, 1, 0, 0]), Item.inBlock 0, Item.code (cAt Try.prog 9 [1, 1, 1, 1])] (mkJ 0 [(2, .dat l), (7, .ptr 0 0), (34, .dat e), (35, .int .i64 (e.len : Int)), (36, .int .i64 j)] 0 98)) [] (grM a b c x y z)
section
variable (e l a b c x y : D) (z : Bool) (j : Int)
theorem acc_go : 
 let z2 := (SFrm.mk 8 none none [Item.inLoop (cAt Try.prog 8 [1, 1, 1, 0, 1, 0, 0]), Item.inBlock 0, Item.code (cAt Try.prog 8 [1, 1, 1, 1])] (mkJ 0 [(5, .ptr 0 0), (28, .dat l), (29, .int .i64 (↑(D.len l) : Int)), (30, .int .i64 (IntKind.wrap .i64 (j + 1)))] 0 124))
 let z4 := (runG (GrD.gr (GrD.mk (HiD.mk a b c) x y z)) (StD.st (StD.mk (D.getInt l (Int.toNat j) 0) (WtD.mk (D.getInt l (Int.toNat j) 1) (D.getInt l (Int.toNat j) 2) (D.cell l (Int.toNat j) 3)) (D.getInt l (Int.toNat j) 4))))
 let z1 := (Prod.fst z4)
 let z3 := (Prod.snd z4)
 exec Try.prog ctLS 400 (unroll (accL l a b c x y z j)) =
 Tree.br (decide (j < (↑(D.len l) : Int))) (.need (0 ≤ j ∧ j < (↑(D.len l) : Int) ∧ D.sz l = 5) (.need (D.HasCells l (Int.toNat j) 0 [FT.int .i64, FT.int .i64, FT.int .i64, FT.slc, FT.int .i64]) (.need
 (GrD.Right (GrD.mk (HiD.mk a b c) x y z) ∧ D.len c ≤ 900000 ∧ D.len b ≤ 900000 ∧ WtD.Ok (WtD.mk (D.getInt l (Int.toNat j) 1) (D.getInt l (Int.toNat j) 2) (D.cell l (Int.toNat j) 3))) (.all fun hs => .need
 (GrD.Right (GrD.mk (HiD.mk (D.like (hs 0 0) (Hist.sizes (Gr.hist z1))) (D.like (hs 0 1) (Hist.writes (Gr.hist z1))) (D.like (hs 0 2) (Hist.events (Gr.hist z1)))) (D.like (hs 0 3) (Gr.waiting z1)) (D.like
 (hs 0 4) (Gr.held z1)) (Gr.frozen z1))) (.br (openErr (GrD.gr (GrD.mk (HiD.mk (D.like (hs 0 0) (Hist.sizes (Gr.hist z1))) (D.like (hs 0 1) (Hist.writes (Gr.hist z1))) (D.like (hs 0 2) (Hist.events (Gr.hist z1))))
 (D.like (hs 0 3) (Gr.waiting z1)) (D.like (hs 0 4) (Gr.held z1)) (Gr.frozen z1))) != 0) (.ret (.lb false)) (.all fun hs_1 => .need (D.Is Ev c ∧ D.len c ≤ 1048576) (.need (D.Is Ev (D.like (hs 0 2) (Hist.events
 (Gr.hist z1))) ∧ D.len (D.like (hs 0 2) (Hist.events (Gr.hist z1))) ≤ 1048576) (.br (decide ((↑(D.len (D.like (hs_1 5 0) (acksOf (D.to Ev (D.like (hs 0 2) (Hist.events (Gr.hist z1))))))) : Int) < (↑(D.len
 (D.like (hs_1 2 0) (acksOf (D.to Ev c)))) : Int))) (.ret (.lb false)) (.need (0 ≤ (↑0 : Int) ∧ (↑0 : Int) ≤ (↑(D.len (D.like (hs_1 2 0) (acksOf (D.to Ev c)))) : Int) ∧ (↑(D.len (D.like (hs_1 2 0) (acksOf
 (D.to Ev c)))) : Int) ≤ (↑(D.len (D.like (hs_1 5 0) (acksOf (D.to Ev (D.like (hs 0 2) (Hist.events (Gr.hist z1))))))) : Int) ∧ D.Fits (D.like (hs_1 5 0) (acksOf (D.to Ev (D.like (hs 0 2) (Hist.events (Gr.hist z1)))))) 1)
 (.need (D.Is Int (D.sub (D.like (hs_1 5 0) (acksOf (D.to Ev (D.like (hs 0 2) (Hist.events (Gr.hist z1)))))) 0 (Int.toNat (↑(D.len (D.like (hs_1 2 0) (acksOf (D.to Ev c)))) : Int))) ∧ D.Is Int (D.like (hs_1 2 0)
 (acksOf (D.to Ev c))) ∧ D.len (D.sub (D.like (hs_1 5 0) (acksOf (D.to Ev (D.like (hs 0 2) (Hist.events (Gr.hist z1)))))) 0 (Int.toNat (↑(D.len (D.like (hs_1 2 0) (acksOf (D.to Ev c)))) : Int))) ≤ 1048576 ∧ D.to Int
 (D.sub (D.like (hs_1 5 0) (acksOf (D.to Ev (D.like (hs 0 2) (Hist.events (Gr.hist z1)))))) 0 (Int.toNat (↑(D.len (D.like (hs_1 2 0) (acksOf (D.to Ev c)))) : Int))) = D.to Int (D.like (hs_1 2 0) (acksOf
 (D.to Ev c)))) (.need (0 ≤ (↑(D.len (D.like (hs_1 2 0) (acksOf (D.to Ev c)))) : Int) ∧ (↑(D.len (D.like (hs_1 2 0) (acksOf (D.to Ev c)))) : Int) ≤ (↑(D.len (D.like (hs_1 5 0) (acksOf (D.to Ev (D.like (hs 0 2)
 (Hist.events (Gr.hist z1))))))) : Int) ∧ (↑(D.len (D.like (hs_1 5 0) (acksOf (D.to Ev (D.like (hs 0 2) (Hist.events (Gr.hist z1))))))) : Int) ≤ (↑(D.len (D.like (hs_1 5 0) (acksOf (D.to Ev (D.like (hs 0 2)
 (Hist.events (Gr.hist z1))))))) : Int) ∧ D.Fits (D.like (hs_1 5 0) (acksOf (D.to Ev (D.like (hs 0 2) (Hist.events (Gr.hist z1)))))) 1) (.need (D.Is Int (D.sub (D.like (hs_1 5 0) (acksOf (D.to Ev (D.like
 (hs 0 2) (Hist.events (Gr.hist z1)))))) (Int.toNat (↑(D.len (D.like (hs_1 2 0) (acksOf (D.to Ev c)))) : Int)) (Int.toNat (↑(D.len (D.like (hs_1 5 0) (acksOf (D.to Ev (D.like (hs 0 2) (Hist.events (Gr.hist z1))))))) : Int))) ∧ D.Is Int
 (D.like (hs 0 5) z3) ∧ D.len (D.sub (D.like (hs_1 5 0) (acksOf (D.to Ev (D.like (hs 0 2) (Hist.events (Gr.hist z1)))))) (Int.toNat (↑(D.len (D.like (hs_1 2 0) (acksOf (D.to Ev c)))) : Int)) (Int.toNat
 (↑(D.len (D.like (hs_1 5 0) (acksOf (D.to Ev (D.like (hs 0 2) (Hist.events (Gr.hist z1))))))) : Int))) ≤ 1048576 ∧ D.to Int (D.sub (D.like (hs_1 5 0) (acksOf (D.to Ev (D.like (hs 0 2) (Hist.events (Gr.hist z1))))))
 (Int.toNat (↑(D.len (D.like (hs_1 2 0) (acksOf (D.to Ev c)))) : Int)) (Int.toNat (↑(D.len (D.like (hs_1 5 0) (acksOf (D.to Ev (D.like (hs 0 2) (Hist.events (Gr.hist z1))))))) : Int))) = D.to Int (D.like
 (hs 0 5) z3)) (.br (decide (D.getInt l (Int.toNat j) 0 = 0)) (.br (decide (IntKind.wrap .i64 ((↑(D.len (D.like (hs 0 1) (Hist.writes (Gr.hist z1)))) : Int) - (↑(D.len b) : Int)) < 0)) (.ret (.lb false))
 (.br (decide (IntKind.wrap .i64 ((↑(D.len (D.like (hs 0 1) (Hist.writes (Gr.hist z1)))) : Int) - (↑(D.len b) : Int)) > 1)) (.ret (.lb false)) (.br (decide (D.getInt l (Int.toNat j) 0 > 0)) (.br (decide
 (D.getInt l (Int.toNat j) 0 < 4)) (.br (IntKind.wrap .i64 ((↑(D.len (D.like (hs 0 1) (Hist.writes (Gr.hist z1)))) : Int) - (↑(D.len b) : Int)) != 0) (.ret (.lb false)) (.br (IntKind.wrap .i64 (IntKind.wrap .i64
 ((↑(D.len (D.like (hs 0 3) (Gr.waiting z1))) : Int) + (↑(D.len (D.like (hs 0 4) (Gr.held z1))) : Int)) + (↑(D.len (D.like (hs_1 5 0) (acksOf (D.to Ev (D.like (hs 0 2) (Hist.events (Gr.hist z1))))))) : Int)) !=
 (↑(D.len (D.like (hs 0 1) (Hist.writes (Gr.hist z1)))) : Int)) (.ret (.lb false)) (.leaf (Conf.mk z2 [] [(0, OBlk.cells 28 [.dat (D.like (hs 0 0) (Hist.sizes (Gr.hist z1))), .dat (D.like (hs 0 1) (Hist.writes
 (Gr.hist z1))), .dat (D.like (hs 0 2) (Hist.events (Gr.hist z1))), .dat (D.like (hs 0 3) (Gr.waiting z1)), .dat (D.like (hs 0 4) (Gr.held z1)), .bool (Gr.frozen z1)])])))) (.br (IntKind.wrap .i64 (IntKind.wrap .i64
 ((↑(D.len (D.like (hs 0 3) (Gr.waiting z1))) : Int) + (↑(D.len (D.like (hs 0 4) (Gr.held z1))) : Int)) + (↑(D.len (D.like (hs_1 5 0) (acksOf (D.to Ev (D.like (hs 0 2) (Hist.events (Gr.hist z1))))))) : Int)) !=
 (↑(D.len (D.like (hs 0 1) (Hist.writes (Gr.hist z1)))) : Int)) (.ret (.lb false)) (.leaf (Conf.mk z2 [] [(0, OBlk.cells 28 [.dat (D.like (hs 0 0) (Hist.sizes (Gr.hist z1))), .dat (D.like (hs 0 1) (Hist.writes
 (Gr.hist z1))), .dat (D.like (hs 0 2) (Hist.events (Gr.hist z1))), .dat (D.like (hs 0 3) (Gr.waiting z1)), .dat (D.like (hs 0 4) (Gr.held z1)), .bool (Gr.frozen z1)])])))) (.br (IntKind.wrap .i64 (IntKind.wrap .i64
 ((↑(D.len (D.like (hs 0 3) (Gr.waiting z1))) : Int) + (↑(D.len (D.like (hs 0 4) (Gr.held z1))) : Int)) + (↑(D.len (D.like (hs_1 5 0) (acksOf (D.to Ev (D.like (hs 0 2) (Hist.events (Gr.hist z1))))))) : Int)) !=
 (↑(D.len (D.like (hs 0 1) (Hist.writes (Gr.hist z1)))) : Int)) (.ret (.lb false)) (.leaf (Conf.mk z2 [] [(0, OBlk.cells 28 [.dat (D.like (hs 0 0) (Hist.sizes (Gr.hist z1))), .dat (D.like (hs 0 1) (Hist.writes
 (Gr.hist z1))), .dat (D.like (hs 0 2) (Hist.events (Gr.hist z1))), .dat (D.like (hs 0 3) (Gr.waiting z1)), .dat (D.like (hs 0 4) (Gr.held z1)), .bool (Gr.frozen z1)])])))))) (.br (decide (D.getInt l (Int.toNat j) 0 > 0))
 (.br (decide (D.getInt l (Int.toNat j) 0 < 4)) (.br (IntKind.wrap .i64 ((↑(D.len (D.like (hs 0 1) (Hist.writes (Gr.hist z1)))) : Int) - (↑(D.len b) : Int)) != 0) (.ret (.lb false)) (.br (IntKind.wrap .i64
 (IntKind.wrap .i64 ((↑(D.len (D.like (hs 0 3) (Gr.waiting z1))) : Int) + (↑(D.len (D.like (hs 0 4) (Gr.held z1))) : Int)) + (↑(D.len (D.like (hs_1 5 0) (acksOf (D.to Ev (D.like (hs 0 2) (Hist.events (Gr.hist z1))))))) : Int)) !=
 (↑(D.len (D.like (hs 0 1) (Hist.writes (Gr.hist z1)))) : Int)) (.ret (.lb false)) (.leaf (Conf.mk z2 [] [(0, OBlk.cells 28 [.dat (D.like (hs 0 0) (Hist.sizes (Gr.hist z1))), .dat (D.like (hs 0 1) (Hist.writes
 (Gr.hist z1))), .dat (D.like (hs 0 2) (Hist.events (Gr.hist z1))), .dat (D.like (hs 0 3) (Gr.waiting z1)), .dat (D.like (hs 0 4) (Gr.held z1)), .bool (Gr.frozen z1)])])))) (.br (IntKind.wrap .i64 (IntKind.wrap .i64
 ((↑(D.len (D.like (hs 0 3) (Gr.waiting z1))) : Int) + (↑(D.len (D.like (hs 0 4) (Gr.held z1))) : Int)) + (↑(D.len (D.like (hs_1 5 0) (acksOf (D.to Ev (D.like (hs 0 2) (Hist.events (Gr.hist z1))))))) : Int)) !=
 (↑(D.len (D.like (hs 0 1) (Hist.writes (Gr.hist z1)))) : Int)) (.ret (.lb false)) (.leaf (Conf.mk z2 [] [(0, OBlk.cells 28 [.dat (D.like (hs 0 0) (Hist.sizes (Gr.hist z1))), .dat (D.like (hs 0 1) (Hist.writes
 (Gr.hist z1))), .dat (D.like (hs 0 2) (Hist.events (Gr.hist z1))), .dat (D.like (hs 0 3) (Gr.waiting z1)), .dat (D.like (hs 0 4) (Gr.held z1)), .bool (Gr.frozen z1)])])))) (.br (IntKind.wrap .i64 (IntKind.wrap .i64
 ((↑(D.len (D.like (hs 0 3) (Gr.waiting z1))) : Int) + (↑(D.len (D.like (hs 0 4) (Gr.held z1))) : Int)) + (↑(D.len (D.like (hs_1 5 0) (acksOf (D.to Ev (D.like (hs 0 2) (Hist.events (Gr.hist z1))))))) : Int)) !=
 (↑(D.len (D.like (hs 0 1) (Hist.writes (Gr.hist z1)))) : Int)) (.ret (.lb false)) (.leaf (Conf.mk z2 [] [(0, OBlk.cells 28 [.dat (D.like (hs 0 0) (Hist.sizes (Gr.hist z1))), .dat (D.like (hs 0 1) (Hist.writes
 (Gr.hist z1))), .dat (D.like (hs 0 2) (Hist.events (Gr.hist z1))), .dat (D.like (hs 0 3) (Gr.waiting z1)), .dat (D.like (hs 0 4) (Gr.held z1)), .bool (Gr.frozen z1)])]))))))))))))))))) (.ret (.lb true)) := by
 intros; kernel_rfl



end
end Go.Proofs.Ytodhhmjilnfecaa
end
section
open Go Go.Proofs Sx
namespace Sx
noncomputable def likeGD (ds : Nat → D) (g : Gr) : GrD := ⟨⟨(ds 0).like g.hist.sizes, (ds 1).like g.hist.writes, (ds 2).like g.hist.events⟩, (ds 3).like g.waiting, (ds 4).like g.held, g.frozen⟩
theorem likeGD_gr (ds : Nat → D) (g : Gr) : (likeGD ds g).gr = g := likeG_gr
structure GrV (x : GrD) : Prop where
  r : x.Right
  v : openErr x.gr = 0
  e : x.h.e.len ≤ 8192
  w : x.h.w.len ≤ 8192
  wt : x.wt.len ≤ 8192
  hd : x.hd.len ≤ 8192
theorem likeGD_v {ds : Nat → D} {g : Gr} (h : openErr g = 0) : GrV (likeGD ds g) := by
  have b := valid_b h
  exact ⟨likeG_right b, by rw [likeGD_gr]; exact h, by simp only [likeGD, llen]; exact b.e, by simp only [likeGD, llen]; exact b.w, by simp only [likeGD, llen]; exact b.wt, by simp only [likeGD, llen]; exact b.hd⟩
def spGAcc (x : D × D) : SpecR := .scalar [x.1.Is Int ∧ x.2.Is St] (.lb true)
end Sx
namespace Go.Proofs.Ytodhhmjilnfecaa
set_option maxRecDepth 100000
set_option maxHeartbeats 0
theorem acc_step {l : D} {s : GrD} {j : Nat} (hl : l.Is St) (hf : fewS [] (l.to St) = true) (hj : j < (l.to St).length) : WtD.Ok (WtD.mk (D.getInt l (Int.toNat (j : Int)) 1) (D.getInt l (Int.toNat (j : Int)) 2) (D.cell l (Int.toNat (j : Int)) 3)) := by
  obtain ⟨c1, c2, _, c3⟩ := st_cell hl hj
  refine ⟨c2, ?_⟩
  simp only [fewS, Bool.and_eq_true, Bool.not_eq_true', decide_eq_true_eq] at hf
  have := List.any_eq_false.1 hf.2.2.2 _ (List.getElem_mem hj)
  rw [← c3] at this
  have h2 : ((D.cell l j 3).to Sec).length ≤ 30 := by simpa [StD.st, WtD.wt] using this
  show (D.cell l j 3).len ≤ 1048576
  rw [D.Is.length (α := Sec)]; omega
theorem few_tail {s : List Int} {l : List St} (h : fewS s l = true) : fewS [] l = true ∧ l.length ≤ 40 := by
  simp only [fewS, Bool.and_eq_true, Bool.not_eq_true', decide_eq_true_eq] at h ⊢
  exact ⟨⟨h.1, by simp, rfl, h.2.2.2⟩, h.1⟩
theorem acc_loop {H : HV} {w : World} {l : D} (hl : l.Is St) (hf : fewS [] (l.to St) = true) (hl40 : (l.to St).length ≤ 40) {s : GrD} (hs : GrV s) :
    Runs Try.prog ⟨w, H⟩ (accL l s.h.s s.h.w s.h.e s.wt s.hd s.fz 0) (RetS w H (.lb true)) := by
  have ll := D.Is.length (α := St) l
  refine runs_loop (fun u : Nat × GrD => accL l u.2.h.s u.2.h.w u.2.h.e u.2.wt u.2.hd u.2.fz u.1) (fun u => u.1 ≤ (l.to St).length ∧ GrV u.2) (fun u => (l.to St).length - u.1) (fun _ => rfl) ?_ (0, s) ⟨Nat.zero_le _, hs⟩
  rintro ⟨j, ⟨a, b, c⟩, x, y, z⟩ ⟨hj, hV⟩ ih
  obtain ⟨hR, hv, he, hw, hwt, hhd⟩ := id hV
  simp only at hj he hw hwt hhd ih ⊢
  apply exec_sound ctLSOk 400
  rw [acc_go]
  refine ⟨fun hc => ?_, fun hc => ret_lbt⟩
  have hcj : j < (l.to St).length := by have := of_decide_eq_true hc; omega
  obtain ⟨c1, _, _, _⟩ := st_cell hl hcj
  have hW := acc_step (s := ⟨⟨a, b, c⟩, x, y, z⟩) hl hf hcj
  have wj : IntKind.i64.wrap ((j : Int) + 1) = ((j + 1 : Nat) : Int) := wrap_succ hcj (by omega)
  have hva := run_valid (s := StD.st (StD.mk (D.getInt l (Int.toNat (j : Int)) 0) (WtD.mk (D.getInt l (Int.toNat (j : Int)) 1) (D.getInt l (Int.toNat (j : Int)) 2) (D.cell l (Int.toNat (j : Int)) 3)) (D.getInt l (Int.toNat (j : Int)) 4))) hv
  have hak := run_acks (s := StD.st (StD.mk (D.getInt l (Int.toNat (j : Int)) 0) (WtD.mk (D.getInt l (Int.toNat (j : Int)) 1) (D.getInt l (Int.toNat (j : Int)) 2) (D.cell l (Int.toNat (j : Int)) 3)) (D.getInt l (Int.toNat (j : Int)) 4))) hv
  have hwr := run_writes (s := StD.st (StD.mk (D.getInt l (Int.toNat (j : Int)) 0) (WtD.mk (D.getInt l (Int.toNat (j : Int)) 1) (D.getInt l (Int.toNat (j : Int)) 2) (D.cell l (Int.toNat (j : Int)) 3)) (D.getInt l (Int.toNat (j : Int)) 4))) hv
  refine ⟨⟨by omega, by omega, hl.size hcj⟩, c1, ⟨hR, by omega, by omega, hW⟩, fun hs0 => ?_⟩
  show Tree.holds _ _ _ (Tree.need _ _)
  generalize hr : runG (GrD.gr ⟨⟨a, b, c⟩, x, y, z⟩) (StD.st (StD.mk (D.getInt l (Int.toNat (j : Int)) 0) (WtD.mk (D.getInt l (Int.toNat (j : Int)) 1) (D.getInt l (Int.toNat (j : Int)) 2) (D.cell l (Int.toNat (j : Int)) 3)) (D.getInt l (Int.toNat (j : Int)) 4))) = r at hva hak hwr
  have hkd : D.getInt l (Int.toNat (j : Int)) 0 = 0 → r.1.hist.writes.length = (b.to Wt).length ∨ r.1.hist.writes.length = (b.to Wt).length + 1 := hwr.1
  have hkd2 : 0 < D.getInt l (Int.toNat (j : Int)) 0 → D.getInt l (Int.toNat (j : Int)) 0 < 4 → r.1.hist.writes.length = (b.to Wt).length := hwr.2
  have hall := all_accounted hva
  have hb := valid_b hva
  have hak : acksOf r.1.hist.events = acksOf (c.to Ev) ++ r.2 := hak
  have bl := D.Is.length (α := Wt) b
  have al := acksOf_len r.1.hist.events
  have aL := congrArg List.length hak
  rw [List.length_append] at aL
  have hb1 := hb.e
  have hb2 := hb.w
  have hb3 := hb.wt
  have hb4 := hb.hd
  refine ⟨likeG_right hb, ?_⟩
  rw [likeG_gr, D.like_to]
  refine ⟨fun he => ?_, fun _ hs1 => ?_⟩
  · exfalso; rw [hva] at he; exact absurd he (by decide)
  show Tree.holds _ _ _ (Tree.need _ _)
  rw [wj, D.like_to]
  have n1 : (D.like (hs1 5 0) (acksOf r.1.hist.events)).len = (acksOf r.1.hist.events).length := llen _ _
  have n2 : (D.like (hs1 2 0) (acksOf (c.to Ev))).len = (acksOf (c.to Ev)).length := llen _ _
  have n3 : (D.like (hs0 0 1) r.1.hist.writes).len = r.1.hist.writes.length := llen _ _
  have n4 : (D.like (hs0 0 3) r.1.waiting).len = r.1.waiting.length := llen _ _
  have n5 : (D.like (hs0 0 4) r.1.held).len = r.1.held.length := llen _ _
  have n6 : (D.like (hs0 0 2) r.1.hist.events).len = r.1.hist.events.length := llen _ _
  have w1 : IntKind.i64.wrap (((D.like (hs0 0 1) r.1.hist.writes).len : Int) - (b.len : Int)) = ((D.like (hs0 0 1) r.1.hist.writes).len : Int) - (b.len : Int) := wrap64 (by omega) (by omega)
  have w2 : IntKind.i64.wrap (((D.like (hs0 0 3) r.1.waiting).len : Int) + ((D.like (hs0 0 4) r.1.held).len : Int)) = ((D.like (hs0 0 3) r.1.waiting).len : Int) + ((D.like (hs0 0 4) r.1.held).len : Int) := wrap64 (by omega) (by omega)
  have w3 : IntKind.i64.wrap (((D.like (hs0 0 3) r.1.waiting).len : Int) + ((D.like (hs0 0 4) r.1.held).len : Int) + ((D.like (hs1 5 0) (acksOf r.1.hist.events)).len : Int)) = ((D.like (hs0 0 3) r.1.waiting).len : Int) + ((D.like (hs0 0 4) r.1.held).len : Int) + ((D.like (hs1 5 0) (acksOf r.1.hist.events)).len : Int) := wrap64 (by omega) (by omega)
  rw [w1, w2, w3]
  have i5 := D.like_is (hs1 5 0) (acksOf r.1.hist.events)
  have s1 := i5.sub 0 (Int.toNat ((D.like (hs1 2 0) (acksOf (c.to Ev))).len : Int))
  have s2 := i5.sub (Int.toNat ((D.like (hs1 2 0) (acksOf (c.to Ev))).len : Int)) (Int.toNat ((D.like (hs1 5 0) (acksOf r.1.hist.events)).len : Int))
  have t1 : (D.sub (D.like (hs1 5 0) (acksOf r.1.hist.events)) 0 (Int.toNat ((D.like (hs1 2 0) (acksOf (c.to Ev))).len : Int))).to Int = acksOf (c.to Ev) := by
    rw [s1.2, D.like_to, n2, Int.toNat_natCast, List.drop_zero, Nat.sub_zero, hak, List.take_left]
  have t2 : (D.sub (D.like (hs1 5 0) (acksOf r.1.hist.events)) (Int.toNat ((D.like (hs1 2 0) (acksOf (c.to Ev))).len : Int)) (Int.toNat ((D.like (hs1 5 0) (acksOf r.1.hist.events)).len : Int))).to Int = r.2 := by
    rw [s2.2, D.like_to, n1, n2, Int.toNat_natCast, Int.toNat_natCast, hak, List.drop_left, List.length_append, Nat.add_sub_cancel_left, List.take_length]
  have l1 : (D.sub (D.like (hs1 5 0) (acksOf r.1.hist.events)) 0 (Int.toNat ((D.like (hs1 2 0) (acksOf (c.to Ev))).len : Int))).len ≤ 1048576 := by rw [D.Is.length (α := Int), t1]; omega
  have l2 : (D.sub (D.like (hs1 5 0) (acksOf r.1.hist.events)) (Int.toNat ((D.like (hs1 2 0) (acksOf (c.to Ev))).len : Int)) (Int.toNat ((D.like (hs1 5 0) (acksOf r.1.hist.events)).len : Int))).len ≤ 1048576 := by rw [D.Is.length (α := Int), t2]; omega
  have nxt := ih (j + 1, likeGD (hs0 0) r.1) ⟨hcj, likeGD_v hva⟩ (by simp only; omega)
  refine ⟨⟨hR.1.2.2.1, by omega⟩, ⟨D.like_is _ _, by omega⟩, fun hlt => ?_, fun _ => ⟨⟨by omega, by omega, by omega, i5.fits⟩, ⟨s1.1, D.like_is _ _, l1, by first | rw [t1, D.like_to] | rw [t1]⟩, ⟨by omega, by omega, by omega, i5.fits⟩, ⟨s2.1, D.like_is _ _, l2, by first | rw [t2, D.like_to] | rw [t2]⟩, ?_⟩⟩
  · exfalso; have := of_decide_eq_true hlt; omega
  repeat' first
    | exact nxt
    | (with_reducible refine holds_br.2 ⟨fun hx => ?_, fun hx => ?_⟩ <;> try simp only [decide_eq_true_eq, decide_eq_false_iff_not, bne_iff_ne, ne_eq, bne_eq_false_iff_eq] at hx)
    | (exfalso; omega)
theorem lawGAcc : Law Try.prog 8 ((rdD.two rdD).sp spGAcc) := by
  refine law_in _ (by kernel_rfl) fun H w ⟨d, l⟩ hok hp => ?_
  obtain ⟨hd, hl⟩ := hp _ (List.mem_singleton.2 rfl)
  simp only at hd hl
  apply exec_sound ctLSOk 400
  rw [show (rdD.two rdD).canon (d, l) = [.dat d, .dat l] from rfl, acc_in]
  refine ⟨hd, fun hs => ⟨⟨hd, hl⟩, fun _ => ret_lbt, fun hf => ⟨fun _ => ret_lbt, fun he => ?_⟩⟩⟩
  have hf : fewS (d.to Int) (l.to St) = true := by simpa using hf
  have he : (newG (d.to Int)).2 = 0 := by simpa using he
  rcases newG_cases (d.to Int) with h | h
  · exact absurd he h.2
  · exact acc_loop hl (few_tail hf).1 (few_tail hf).2 (s := likeGD (hs 0) (newG (d.to Int)).1) (likeGD_v h.2.1)
end Go.Proofs.Ytodhhmjilnfecaa
end
