/- Layer 15: isClosed, walked up to its first loop over a function. -/
import Derived.KernelRfl
import Derived.Test.YtdiekahpofifeaaHT5toHL31
import Derived.Test.YtdiekahpofifeaaOvtoN16
import Derived.Sort.Row
set_option linter.all false
section
open Go Go.Proofs Sx
namespace Go.Proofs.Ytdiekahpofifeaa
set_option maxRecDepth 100000
set_option maxHeartbeats 0
noncomputable def ctB : Ctrs := [(42, ctrOf ((rdTl.three rdInt rdInt).sp spBefT))]
section
variable (ha hb hc i o a : D)
theorem icl_in : execQ Try.prog ctB 300 (entry Try.prog 45 [.agg [.dat ha, .dat hb, .dat hc, .dat i, .dat o], .dat a]) =
 Tree.need
 (0 ≤ (↑(D.len hb) : Int) ∧
 (↑(D.len hb) : Int) = (↑(D.len hb) : Int) ∧
 (↑1 : Int) * (↑(D.len hb) : Int) ≤ 281474976710656 ∧ (↑(D.len hb) : Int) ≤ 9223372036854775807)
 (.all fun hs =>
 .leaf
 (Conf.mk
 (SFrm.mk 45 none none
 [Item.code (cAt Try.prog 45 [1, 1, 0, 1, 0]), Item.inBlock 0, Item.code (cAt Try.prog 45 [1, 1, 1])]
 (mkU
 [(0, SV.junk 0), (1, .dat a), (2, .ptr 0 0), (3, SV.junk 3), (4, .ptr 1 0), (5, .ptr 2 0),
 (7, SV.junk 7), (8, SV.junk 8), (9, SV.junk 9), (10, SV.junk 10), (11, SV.junk 11), (12, SV.junk 12),
 (13, SV.junk 13), (14, SV.junk 14), (15, SV.junk 15), (16, SV.fn 75 [] [.ptr 3 0, .ptr 4 0]),
 (18, SV.junk 18), (22, SV.junk 22), (23, SV.junk 23), (24, SV.junk 24), (25, SV.junk 25),
 (26, SV.junk 26), (27, SV.junk 27), (28, SV.junk 28), (29, SV.junk 29), (30, SV.junk 30),
 (31, SV.junk 31), (32, SV.junk 32), (33, SV.junk 33), (34, SV.junk 34), (35, SV.junk 35),
 (36, SV.junk 36), (37, SV.junk 37), (38, SV.junk 38), (39, SV.junk 39), (40, SV.junk 40),
 (41, SV.junk 41), (42, SV.junk 42), (43, SV.junk 43), (44, SV.junk 44), (45, SV.junk 45),
 (46, SV.junk 46)]
 0 47))
 []
 [(0, OBlk.cells 81 [.dat ha, .dat hb, .dat hc, .dat i, .dat o]), (1, OBlk.cells 4 [.lb false]),
 (2, OBlk.cells 108 [.vec 5]), (3, OBlk.cells 22 [.dat a]),
 (4, OBlk.cells 81 [.dat ha, .dat hb, .dat hc, .dat i, .dat o]),
 (5, OBlk.arr 4 (D.slc (D.hd (hs 0 0)) 1 (List.replicate (Int.toNat (↑(D.len hb) : Int)) [D.bool false])))])) := by kernel_rfl

end
end Go.Proofs.Ytdiekahpofifeaa
end
section
open Go Go.Proofs Sx
namespace Go.Proofs.Ytdiekahpofifeaa
set_option maxRecDepth 100000
set_option maxHeartbeats 0
noncomputable def clK : List Item := [Item.inBlock 0, Item.code (cAt Try.prog 45 [1, 1, 1])]
noncomputable def clT (a : D) : List SV := mkU [(0, SV.junk 0), (1, .dat a), (2, .ptr 100000 0), (3, SV.junk 3), (4, .ptr 100001 0), (5, .ptr 100002 0), (7, SV.junk 7), (8, SV.junk 8), (9, SV.junk 9), (10, SV.junk 10), (11, SV.junk 11), (12, SV.junk 12), (13, SV.junk 13), (14, SV.junk 14), (15, SV.junk 15), (16, SV.fn 75 [] [.ptr 100003 0, .ptr 100004 0]), (18, SV.junk 18), (22, SV.junk 22), (23, SV.junk 23), (24, SV.junk 24), (25, SV.junk 25), (26, SV.junk 26), (27, SV.junk 27), (28, SV.junk 28), (29, SV.junk 29), (30, SV.junk 30), (31, SV.junk 31), (32, SV.junk 32), (33, SV.junk 33), (34, SV.junk 34), (35, SV.junk 35), (36, SV.junk 36), (37, SV.junk 37), (38, SV.junk 38), (39, SV.junk 39), (40, SV.junk 40), (41, SV.junk 41), (42, SV.junk 42), (43, SV.junk 43), (44, SV.junk 44), (45, SV.junk 45), (46, SV.junk 46)] 0 47
noncomputable def clM (ha hb hc i o a q : D) : Mem := (100003, OBlk.cells 22 [.dat a]) :: (100004, OBlk.cells 81 [.dat ha, .dat hb, .dat hc, .dat i, .dat o]) :: [(100000, OBlk.cells 81 [.dat ha, .dat hb, .dat hc, .dat i, .dat o]), (100001, OBlk.cells 4 [.lb false]), (100002, OBlk.cells 108 [.vec 100005]), (100005, OBlk.arr 4 q)]
noncomputable def clR (hb a : D) (z : Int) : List SV := ((clT a).set 17 (.int .i64 z)).set 18 (wvH hb z)
section
variable (ha hb hc i o a q : D) (z : Int)
theorem cla_go : execP Try.prog [] 100 ⟨⟨45, none, none, [.code (cAt Try.prog 45 [1, 1, 0, 1, 0, 0])], clR hb a z⟩, [], clM ha hb hc i o a q⟩ =
 Tree.leaf
 (Conf.mk
 (SFrm.mk 45 none none []
 (mkU
 [(0, SV.junk 0), (1, .dat a), (2, .ptr 100000 0), (3, SV.junk 3), (4, .ptr 100001 0),
 (5, .ptr 100002 0), (6, .int .i64 z), (7, SV.junk 7), (8, SV.junk 8), (9, SV.junk 9),
 (10, SV.junk 10), (11, SV.junk 11), (12, SV.junk 12), (13, SV.junk 13), (14, SV.junk 14), (15, SV.junk 15),
 (16, SV.fn 75 [] [.ptr 100003 0, .ptr 100004 0]), (17, .int .i64 z),
 (18,
 .agg
 [.int .i64 (D.getInt hb (Int.toNat z) 0), .int .i64 (D.getInt hb (Int.toNat z) 1),
 .dat (D.cell hb (Int.toNat z) 2)]),
 (22, SV.junk 22), (23, SV.junk 23), (24, SV.junk 24), (25, SV.junk 25), (26, SV.junk 26), (27, SV.junk 27),
 (28, SV.junk 28), (29, SV.junk 29), (30, SV.junk 30), (31, SV.junk 31), (32, SV.junk 32), (33, SV.junk 33),
 (34, SV.junk 34), (35, SV.junk 35), (36, SV.junk 36), (37, SV.junk 37), (38, SV.junk 38), (39, SV.junk 39),
 (40, SV.junk 40), (41, SV.junk 41), (42, SV.junk 42), (43, SV.junk 43), (44, SV.junk 44), (45, SV.junk 45),
 (46, SV.junk 46)]
 0 47))
 []
 [(100003, OBlk.cells 22 [.dat a]), (100004, OBlk.cells 81 [.dat ha, .dat hb, .dat hc, .dat i, .dat o]),
 (100000, OBlk.cells 81 [.dat ha, .dat hb, .dat hc, .dat i, .dat o]),
 (100001, OBlk.cells 4 [.lb false]), (100002, OBlk.cells 108 [.vec 100005]), (100005, OBlk.arr 4 q)]) := by kernel_rfl

theorem clb_go : execP Try.prog [] 100 ⟨⟨45, none, none, [.code (cAt Try.prog 45 [1, 1, 0, 1, 0, 1])], (clR hb a z).set 6 (.int .i64 z)⟩, [], clM ha hb hc i o a q⟩ =
 Tree.need (0 ≤ z ∧ z < (↑(D.len q) : Int) ∧ D.sz q = 1)
 (.need (Int.toNat z < D.len q ∧ 1 ≤ D.sz q ∧ D.sz q = 1)
 (.leaf
 (Conf.mk
 (SFrm.mk 45 none none []
 (mkJ 0
 [(1, .dat a), (2, .ptr 100000 0), (4, .ptr 100001 0), (5, .ptr 100002 0), (6, .int .i64 z),
 (16, SV.fn 75 [] [.ptr 100003 0, .ptr 100004 0]), (17, .int .i64 z),
 (18,
 .agg
 [.int .i64 (D.getInt hb (Int.toNat z) 0), .int .i64 (D.getInt hb (Int.toNat z) 1),
 .dat (D.cell hb (Int.toNat z) 2)]),
 (19, .vec 100005), (20, .int .i64 z), (21, SV.velt 100005 1 (Int.toNat z) 0)]
 0 47))
 []
 [(100003, OBlk.cells 22 [.dat a]),
 (100004, OBlk.cells 81 [.dat ha, .dat hb, .dat hc, .dat i, .dat o]),
 (100000, OBlk.cells 81 [.dat ha, .dat hb, .dat hc, .dat i, .dat o]),
 (100001, OBlk.cells 4 [.lb false]), (100002, OBlk.cells 108 [.vec 100005]),
 (100005, OBlk.arr 4 (D.setCells q (Int.toNat z) 0 [D.bool true]))]))) := by kernel_rfl

theorem clq_in : execQ Try.prog ctB 300 ⟨⟨45, none, none, clK, clT a⟩, [], clM ha hb hc i o a q⟩ =
 Tree.leaf
 (Conf.mk
 (SFrm.mk 45 none none
 [Item.code (cAt Try.prog 45 [1, 1, 1, 0, 1, 0]), Item.inBlock 2, Item.code (cAt Try.prog 45 [1, 1, 1, 1])]
 (mkU
 [(0, SV.junk 0), (1, .dat a), (2, .ptr 100000 0), (3, SV.junk 3), (4, .ptr 100001 0),
 (5, .ptr 100002 0), (7, SV.junk 7), (8, SV.junk 8), (9, SV.junk 9), (10, SV.junk 10), (11, SV.junk 11),
 (12, SV.junk 12), (13, SV.junk 13), (14, SV.junk 14), (15, SV.junk 15),
 (16, SV.fn 75 [] [.ptr 100003 0, .ptr 100004 0]), (18, SV.junk 18),
 (22, .agg [.dat ha, .dat hb, .dat hc, .dat i, .dat o]), (23, .dat a),
 (24, SV.fn 75 [] [.ptr 5 0, .ptr 6 0]), (25, SV.junk 25), (26, SV.junk 26), (27, SV.junk 27),
 (28, SV.junk 28), (29, SV.junk 29), (30, SV.junk 30), (31, SV.junk 31), (32, SV.junk 32), (33, SV.junk 33),
 (34, SV.junk 34), (35, SV.junk 35), (36, SV.junk 36), (37, SV.junk 37), (38, SV.junk 38), (39, SV.junk 39),
 (40, SV.junk 40), (41, SV.junk 41), (42, SV.junk 42), (43, SV.junk 43), (44, SV.junk 44), (45, SV.junk 45),
 (46, SV.junk 46)]
 0 47))
 []
 [(5, OBlk.cells 22 [.dat a]), (6, OBlk.cells 81 [.dat ha, .dat hb, .dat hc, .dat i, .dat o]),
 (100000, OBlk.cells 81 [.dat ha, .dat hb, .dat hc, .dat i, .dat o]),
 (100001, OBlk.cells 4 [.lb false]), (100002, OBlk.cells 108 [.vec 100005]),
 (100003, OBlk.cells 22 [.dat a]), (100004, OBlk.cells 81 [.dat ha, .dat hb, .dat hc, .dat i, .dat o]),
 (100005, OBlk.arr 4 q)]) := by kernel_rfl

end
end Go.Proofs.Ytdiekahpofifeaa
end
section
open Go Go.Proofs Sx
namespace Go.Proofs.Ytdiekahpofifeaa
set_option maxRecDepth 100000
set_option maxHeartbeats 0
noncomputable def cmK : List Item := [Item.inBlock 2, Item.code (cAt Try.prog 45 [1, 1, 1, 1])]
noncomputable def cmT (ha hb hc i o a : D) : List SV := mkU [(0, SV.junk 0), (1, .dat a), (2, .ptr 100000 0), (3, SV.junk 3), (4, .ptr 100001 0), (5, .ptr 100002 0), (7, SV.junk 7), (8, SV.junk 8), (9, SV.junk 9), (10, SV.junk 10), (11, SV.junk 11), (12, SV.junk 12), (13, SV.junk 13), (14, SV.junk 14), (15, SV.junk 15), (16, SV.fn 75 [] [.ptr 100003 0, .ptr 100004 0]), (18, SV.junk 18), (22, .agg [.dat ha, .dat hb, .dat hc, .dat i, .dat o]), (23, .dat a), (24, SV.fn 75 [] [.ptr 200005 0, .ptr 200006 0]), (25, SV.junk 25), (26, SV.junk 26), (27, SV.junk 27), (28, SV.junk 28), (29, SV.junk 29), (30, SV.junk 30), (31, SV.junk 31), (32, SV.junk 32), (33, SV.junk 33), (34, SV.junk 34), (35, SV.junk 35), (36, SV.junk 36), (37, SV.junk 37), (38, SV.junk 38), (39, SV.junk 39), (40, SV.junk 40), (41, SV.junk 41), (42, SV.junk 42), (43, SV.junk 43), (44, SV.junk 44), (45, SV.junk 45), (46, SV.junk 46)] 0 47
noncomputable def cmM (ha hb hc i o a q : D) : Mem := (200005, OBlk.cells 22 [.dat a]) :: (200006, OBlk.cells 81 [.dat ha, .dat hb, .dat hc, .dat i, .dat o]) :: [(100000, OBlk.cells 81 [.dat ha, .dat hb, .dat hc, .dat i, .dat o]), (100001, OBlk.cells 4 [.lb false]), (100002, OBlk.cells 108 [.vec 100005]), (100003, OBlk.cells 22 [.dat a]), (100004, OBlk.cells 81 [.dat ha, .dat hb, .dat hc, .dat i, .dat o]), (100005, OBlk.arr 4 q)]
noncomputable def cmR (ha hb hc i o a : D) (z : Int) : List SV := ((cmT ha hb hc i o a).set 25 (.int .i64 z)).set 26 (wvH hb z)
section
variable (ha hb hc i o a q : D) (z : Int)
theorem cma_go : execP Try.prog [] 100 ⟨⟨45, none, none, [.code (cAt Try.prog 45 [1, 1, 1, 0, 1, 0, 0])], cmR ha hb hc i o a z⟩, [], cmM ha hb hc i o a q⟩ =
 Tree.leaf
 (Conf.mk
 (SFrm.mk 45 none none []
 (mkU
 [(0, SV.junk 0), (1, .dat a), (2, .ptr 100000 0), (3, SV.junk 3), (4, .ptr 100001 0),
 (5, .ptr 100002 0), (7, .int .i64 z), (8, SV.junk 8), (9, SV.junk 9), (10, SV.junk 10),
 (11, SV.junk 11), (12, SV.junk 12), (13, SV.junk 13), (14, SV.junk 14), (15, SV.junk 15),
 (16, SV.fn 75 [] [.ptr 100003 0, .ptr 100004 0]), (18, SV.junk 18),
 (22, .agg [.dat ha, .dat hb, .dat hc, .dat i, .dat o]), (23, .dat a),
 (24, SV.fn 75 [] [.ptr 200005 0, .ptr 200006 0]), (25, .int .i64 z),
 (26,
 .agg
 [.int .i64 (D.getInt hb (Int.toNat z) 0), .int .i64 (D.getInt hb (Int.toNat z) 1),
 .dat (D.cell hb (Int.toNat z) 2)]),
 (27, SV.junk 27), (28, SV.junk 28), (29, SV.junk 29), (30, SV.junk 30), (31, SV.junk 31), (32, SV.junk 32),
 (33, SV.junk 33), (34, SV.junk 34), (35, SV.junk 35), (36, SV.junk 36), (37, SV.junk 37), (38, SV.junk 38),
 (39, SV.junk 39), (40, SV.junk 40), (41, SV.junk 41), (42, SV.junk 42), (43, SV.junk 43), (44, SV.junk 44),
 (45, SV.junk 45), (46, SV.junk 46)]
 0 47))
 []
 [(200005, OBlk.cells 22 [.dat a]), (200006, OBlk.cells 81 [.dat ha, .dat hb, .dat hc, .dat i, .dat o]),
 (100000, OBlk.cells 81 [.dat ha, .dat hb, .dat hc, .dat i, .dat o]),
 (100001, OBlk.cells 4 [.lb false]), (100002, OBlk.cells 108 [.vec 100005]),
 (100003, OBlk.cells 22 [.dat a]), (100004, OBlk.cells 81 [.dat ha, .dat hb, .dat hc, .dat i, .dat o]),
 (100005, OBlk.arr 4 q)]) := by kernel_rfl

theorem cmb_go : execP Try.prog ctB 100 ⟨⟨45, none, none, [.code (cAt Try.prog 45 [1, 1, 1, 0, 1, 0, 1])], (cmR ha hb hc i o a z).set 7 (.int .i64 z)⟩, [], cmM ha hb hc i o a q⟩ =
 Tree.leaf
 (Conf.mk
 (SFrm.mk 45 none none
 [Item.inLoop (cAt Try.prog 45 [1, 1, 1, 0, 1, 0, 1, 0, 1, 0, 0]), Item.inBlock 4, Item.inBlock 3]
 (mkJ 0
 [(2, .ptr 100000 0), (4, .ptr 100001 0), (5, .ptr 100002 0), (7, .int .i64 z),
 (30, .int .i64 (↑(D.len hb) : Int)), (31, .int .i64 0)]
 0 47))
 []
 [(100000, OBlk.cells 81 [.dat ha, .dat hb, .dat hc, .dat i, .dat o]),
 (100001, OBlk.cells 4 [.lb false]), (100002, OBlk.cells 108 [.vec 100005]),
 (100003, OBlk.cells 22 [.dat a]), (100004, OBlk.cells 81 [.dat ha, .dat hb, .dat hc, .dat i, .dat o]),
 (100005, OBlk.arr 4 q), (200005, OBlk.cells 22 [.dat a]),
 (200006, OBlk.cells 81 [.dat ha, .dat hb, .dat hc, .dat i, .dat o])]) := by kernel_rfl

theorem cme_in : execQ Try.prog ctB 300 ⟨⟨45, none, none, cmK, cmT ha hb hc i o a⟩, [], cmM ha hb hc i o a q⟩ =
 Tree.ret (.lb true) := by kernel_rfl

theorem cms_in : execQ Try.prog ctB 300 ⟨⟨45, none, none, .code .ret :: cmK, cmT ha hb hc i o a⟩, [], cmM ha hb hc i o a q⟩ =
 Tree.ret (.lb false) := by kernel_rfl

end
end Go.Proofs.Ytdiekahpofifeaa
end
section
open Go Go.Proofs Sx
namespace Go.Proofs.Ytdiekahpofifeaa
set_option maxRecDepth 100000
set_option maxHeartbeats 0
noncomputable def cmL (ha hb hc i o a q : D) (z j : Int) : Conf := Conf.mk (SFrm.mk 45 none none [Item.inLoop (cAt Try.prog 45 [1, 1, 1, 0, 1, 0, 1, 0, 1, 0, 0]), Item.inBlock 4, Item.inBlock 3] (mkJ 0 [(2, .ptr 100000 0), (4, .ptr 100001 0), (5, .ptr 100002 0), (7, .int .i64 z), (30, .int .i64 (D.len hb : Int)), (31, .int .i64 j)] 0 47)) [] [(100000, OBlk.cells 81 [.dat ha, .dat hb, .dat hc, .dat i, .dat o]), (100001, OBlk.cells 4 [.lb false]), (100002, OBlk.cells 108 [.vec 100005]), (100003, OBlk.cells 22 [.dat a]), (100004, OBlk.cells 81 [.dat ha, .dat hb, .dat hc, .dat i, .dat o]), (100005, OBlk.arr 4 q), (200005, OBlk.cells 22 [.dat a]), (200006, OBlk.cells 81 [.dat ha, .dat hb, .dat hc, .dat i, .dat o])]
section
variable (ha hb hc i o a q : D) (z j : Int)
theorem cml_go : 
 let z1 : Tree := (.leaf (Conf.mk (SFrm.mk 45 none none [Item.inLoop (cAt Try.prog 45 [1, 1, 1, 0, 1, 0, 1, 0, 1, 0, 0]), Item.inBlock 4, Item.inBlock 3] (mkJ 0 [(2, .ptr 100000 0), (4, .ptr 100001 0), (5, .ptr 100002 0), (7, .int .i64 z), (30, .int .i64 (↑(D.len hb) : Int)), (31, .int .i64 (IntKind.wrap .i64 (j + 1)))] 0 47)) [] [(100000, OBlk.cells 81 [.dat ha, .dat hb, .dat hc, .dat i, .dat o]), (100001, OBlk.cells 4 [.lb false]), (100002, OBlk.cells 108 [.vec 100005]), (100003, OBlk.cells 22 [.dat a]), (100004, OBlk.cells 81 [.dat ha, .dat hb, .dat hc, .dat i, .dat o]), (100005, OBlk.arr 4 q), (200005, OBlk.cells 22 [.dat a]), (200006, OBlk.cells 81 [.dat ha, .dat hb, .dat hc, .dat i, .dat o])]))
 execP Try.prog ctB 300 (unroll (cmL ha hb hc i o a q z j)) =
 Tree.br (decide (j < (↑(D.len hb) : Int))) (.need (0 ≤ j ∧ j < (↑(D.len q) : Int) ∧ D.sz q = 1) (.need (D.HasCell q (Int.toNat j) 0 FT.bool ∧ D.sz q = 1) (.br (!D.getBool q (Int.toNat j) 0) (.need (D.Is Int i ∧ D.Is Int o ∧ 0 ≤ j ∧ j <
 (↑(List.length (D.to Int o)) : Int) ∧ 0 ≤ z ∧ z < (↑(List.length (D.to Int i)) : Int)) (.br (beforeT (TlD.tl (TlD.mk i o)) j z) (.leaf (Conf.mk (SFrm.mk 45 none none [Item.code (cAt Try.prog 45 [1, 1, 1, 0, 1, 0, 1, 0, 1, 0, 0, 1, 1, 0, 0, 1, 1, 0, 1]), Item.inBlock 5, Item.code
 (cAt Try.prog 45 [1, 1, 1, 0, 1, 0, 1, 0, 1, 0, 0, 1, 1, 1]), Item.inLoop (cAt Try.prog 45 [1, 1, 1, 0, 1, 0, 1, 0, 1, 0, 0]), Item.inBlock 4, Item.inBlock 3] (mkJ 0 [(2, .ptr 100000 0), (4, .ptr 100001 0),
 (5, .ptr 100002 0), (7, .int .i64 z), (8, .int .i64 j), (30, .int .i64 (↑(D.len hb) : Int)), (31, .int .i64 j), (32, .bool (decide (j < (↑(D.len hb) : Int)))), (33, .int .i64 j), (34, .vec 100005), (35, .int .i64 j),
 (36, SV.velt 100005 1 (Int.toNat j) 0), (37, .bool (D.getBool q (Int.toNat j) 0)), (38, .bool !D.getBool q (Int.toNat j) 0), (39, .lb true), (40, .ptr 100000 3), (41, .agg [.dat i, .dat o]), (42, .int .i64 j),
 (43, .int .i64 z), (44, .bool (beforeT (TlD.tl (TlD.mk i o)) j z)), (45, .bool (beforeT (TlD.tl (TlD.mk i o)) j z))] 0 47)) [] [(100000, OBlk.cells 81 [.dat ha, .dat hb, .dat hc, .dat i, .dat o]), (100001, OBlk.cells 4 [.lb false]),
 (100002, OBlk.cells 108 [.vec 100005]), (100003, OBlk.cells 22 [.dat a]), (100004, OBlk.cells 81 [.dat ha, .dat hb, .dat hc, .dat i, .dat o]), (100005, OBlk.arr 4 q), (200005, OBlk.cells 22 [.dat a]),
 (200006, OBlk.cells 81 [.dat ha, .dat hb, .dat hc, .dat i, .dat o])])) z1)) z1))) (.leaf (Conf.mk (SFrm.mk 45 none none [] (mkJ 0 [(2, .ptr 100000 0), (4, .ptr 100001 0), (5, .ptr 100002 0), (7, .int .i64 z),
 (30, .int .i64 (↑(D.len hb) : Int)), (31, .int .i64 j), (32, .bool (decide (j < (↑(D.len hb) : Int))))] 0 47)) [] [(100000, OBlk.cells 81 [.dat ha, .dat hb, .dat hc, .dat i, .dat o]), (100001, OBlk.cells 4 [.lb false]),
 (100002, OBlk.cells 108 [.vec 100005]), (100003, OBlk.cells 22 [.dat a]), (100004, OBlk.cells 81 [.dat ha, .dat hb, .dat hc, .dat i, .dat o]), (100005, OBlk.arr 4 q), (200005, OBlk.cells 22 [.dat a]),
 (200006, OBlk.cells 81 [.dat ha, .dat hb, .dat hc, .dat i, .dat o])])) := by
 intros; kernel_rfl

theorem clF1 : cAt Try.prog 45 [1, 1, 0, 1, 0] = .rangeFunc (.tmp 16) #[17, 18] (cAt Try.prog 45 [1, 1, 0, 1, 0, 0]) (cAt Try.prog 45 [1, 1, 0, 1, 0, 1]) := by kernel_rfl
theorem clF2 : cAt Try.prog 45 [1, 1, 1, 0, 1, 0] = .rangeFunc (.tmp 24) #[25, 26] (cAt Try.prog 45 [1, 1, 1, 0, 1, 0, 0]) (cAt Try.prog 45 [1, 1, 1, 0, 1, 0, 1]) := by kernel_rfl
end
end Go.Proofs.Ytdiekahpofifeaa
end
section
open Go Go.Proofs Sx
namespace Go.Proofs.Ytdiekahpofifeaa
set_option maxRecDepth 100000

theorem ctBOk : Ctrs.Ok Try.prog ctB := by
  intro x hx
  simp only [ctB, List.mem_cons, List.not_mem_nil, or_false] at hx
  rcases hx with rfl
  exact ctrOf_ok lawBefT

section
variable {H : HV} {w : World} {ha hb hc i o a : D} (rw' : hb.Is Wt) (ri : i.Is Int) (ro : o.Is Int) (ra : a.Is Int) (lw : hb.len ≤ 1048576) (la : a.len ≤ 1048576)
  (li : (i.to Int).length = (hb.to Wt).length) (lo : (o.to Int).length = (hb.to Wt).length) (hset : setH (a.to Int) (hb.to Wt).length = true)
include rw' ri ro ra lw la li lo hset

theorem cl_in_set : ∀ j, j < a.len → 0 ≤ a.getInt (Int.toNat (j : Int)) 0 ∧ a.getInt (Int.toNat (j : Int)) 0 < (hb.len : Int) := fun j hj => by
  have hj' : j < (a.to Int).length := by rw [← D.Is.length (α := Int)]; exact hj
  have := setH_in hset hj'
  rw [(int_at ra hj').2.2, D.Is.length (α := Wt) hb]
  exact this
theorem cm_inner {C1 : Ctx} (hrd : C1.x.rd = true) {q : D} (hq : q.Is Bool) (hqs : q.sz = 1 ∨ q.len = 0) (hqt : q.to Bool = inL (hb.to Wt).length (a.to Int)) {j : Nat} (hj : j < (a.to Int).length)
    {Φ : Bool → List SV → Mem → Prop} (h1 : rowOk ⟨i.to Int, o.to Int⟩ (hb.to Wt).length (a.to Int) (a.to Int)[j] = true → ∀ T, ∀ m, (cmM ha hb hc i o a q).Perm m → Φ true T m)
    (h2 : rowOk ⟨i.to Int, o.to Int⟩ (hb.to Wt).length (a.to Int) (a.to Int)[j] = false → ∀ T, ∀ m, (cmM ha hb hc i o a q).Perm m → Φ false T m) :
    Runs Try.prog C1 (cmL ha hb hc i o a q (a.to Int)[j] 0) (EndR C1 Φ) := by
  have bl := D.Is.length (α := Wt) hb
  have ql := D.Is.length (α := Bool) q
  rw [hqt, inL_len] at ql
  have hz := setH_in hset hj
  have hperm : (cmM ha hb hc i o a q).Perm [(100000, OBlk.cells 81 [SV.dat ha, SV.dat hb, SV.dat hc, SV.dat i, SV.dat o]), (100001, OBlk.cells 4 [SV.lb false]), (100002, OBlk.cells 108 [SV.vec 100005]), (100003, OBlk.cells 22 [SV.dat a]), (100004, OBlk.cells 81 [SV.dat ha, SV.dat hb, SV.dat hc, SV.dat i, SV.dat o]), (100005, OBlk.arr 4 q), (200005, OBlk.cells 22 [SV.dat a]), (200006, OBlk.cells 81 [SV.dat ha, SV.dat hb, SV.dat hc, SV.dat i, SV.dat o])] :=
    List.perm_append_comm (l₁ := [(200005, OBlk.cells 22 [SV.dat a]), (200006, OBlk.cells 81 [SV.dat ha, SV.dat hb, SV.dat hc, SV.dat i, SV.dat o])])
  refine runs_loop (fun k : Nat => cmL ha hb hc i o a q (a.to Int)[j] k) (fun k => k ≤ (hb.to Wt).length ∧ ∀ x : Nat, x < k → ((a.to Int).contains (x : Int) || !beforeT ⟨i.to Int, o.to Int⟩ x (a.to Int)[j]) = true) (fun k => (hb.to Wt).length - k) (fun _ => rfl) ?_ 0 ⟨Nat.zero_le _, fun x hx => absurd hx (Nat.not_lt_zero _)⟩
  intro k ⟨hk, hpre⟩ ih
  apply execP_sound ctBOk 300
  rw [cml_go]
  refine ⟨fun hck => ?_, fun hck => ?_⟩
  · have hck : k < (hb.to Wt).length := by have := of_decide_eq_true hck; omega
    have hkq : k < (q.to Bool).length := by rw [hqt, inL_len]; exact hck
    obtain ⟨b1, b2⟩ := bool_cell hq hkq
    have hqv : (q.to Bool)[k] = (a.to Int).contains (k : Int) := by simp only [hqt]; exact inL_get _
    rw [hqv] at b1
    have hsz := hq.size hkq
    have hsz1 : q.sz = 1 := hsz
    have gb : q.getBool (Int.toNat (k : Int)) 0 = (a.to Int).contains (k : Int) := b1
    have nxt : ((a.to Int).contains (k : Int) || !beforeT ⟨i.to Int, o.to Int⟩ k (a.to Int)[j]) = true → Runs Try.prog C1 (cmL ha hb hc i o a q (a.to Int)[j] (IntKind.i64.wrap ((k : Int) + 1))) (EndR C1 Φ) := fun h => by
      have := ih (k + 1) ⟨hck, fun x hx => by
        by_cases e : x = k
        · subst e; exact h
        · exact hpre x (by omega)⟩ (by omega)
      rw [← wrap_succ hck (by omega)] at this
      exact this
    rw [gb]
    refine ⟨⟨by omega, by omega, hsz1⟩, ⟨b2, hsz1⟩, fun hn => ⟨⟨ri, ro, by omega, by omega, hz.1, by omega⟩, fun hbf => ?_, fun hbf => ?_⟩, fun hn => ?_⟩
    · have hn : (a.to Int).contains (k : Int) = false := by simpa using hn
      have hbf : beforeT ⟨i.to Int, o.to Int⟩ k (a.to Int)[j] = true := hbf
      refine end_ret hrd (h2 ?_ _ _ hperm)
      unfold rowOk
      rw [List.all_eq_false]
      exact ⟨k, List.mem_range.2 hck, by simp only [hn, hbf]; decide⟩
    · have hbf : beforeT ⟨i.to Int, o.to Int⟩ k (a.to Int)[j] = false := hbf
      exact nxt (by rw [hbf]; simp)
    · have hn : (a.to Int).contains (k : Int) = true := by simpa using hn
      exact nxt (by rw [hn]; simp)
  · have : k = (hb.to Wt).length := by have := of_decide_eq_false hck; omega
    subst this
    refine end_here hrd (h1 ?_ _ _ hperm)
    unfold rowOk
    rw [List.all_eq_true]
    exact fun x hx => hpre x (List.mem_range.1 hx)
theorem cm_runs {Dm : Nat} {q : D} (hq : q.Is Bool) (hqs : q.sz = 1 ∨ q.len = 0) (hqt : q.to Bool = inL (hb.to Wt).length (a.to Int)) :
    Runs Try.prog ((⟨w, H⟩ : Ctx).marked Dm) ⟨⟨45, none, none, clK, clT a⟩, [], clM ha hb hc i o a q⟩ (RetS w H (.bool (closedT ⟨i.to Int, o.to Int⟩ (hb.to Wt).length (a.to Int)))) := by
  have al := D.Is.length (α := Int) a
  apply execQ_sound ctBOk 300
  rw [clq_in]
  refine pin_to 200000 ⟨⟨45, none, none, Item.code (cAt Try.prog 45 [1, 1, 1, 0, 1, 0]) :: cmK, cmT ha hb hc i o a⟩, [], (200005, OBlk.cells 22 [SV.dat a]) :: (200006, OBlk.cells 81 [SV.dat ha, SV.dat hb, SV.dat hc, SV.dat i, SV.dat o]) :: [(100000, OBlk.cells 81 [SV.dat ha, SV.dat hb, SV.dat hc, SV.dat i, SV.dat o]), (100001, OBlk.cells 4 [SV.lb false]), (100002, OBlk.cells 108 [SV.vec 100005]), (100003, OBlk.cells 22 [SV.dat a]), (100004, OBlk.cells 81 [SV.dat ha, SV.dat hb, SV.dat hc, SV.dat i, SV.dat o]), (100005, OBlk.arr 4 q)]⟩ (by kernel_rfl) ?_ rfl
  rw [clF2]
  refine runs_range icode (mm := fun _ : Unit => cmM ha hb hc i o a q) (Inv := fun j _ => ∀ k, (hk : k < (a.to Int).length) → k < j → rowOk ⟨i.to Int, o.to Int⟩ (hb.to Wt).length (a.to Int) (a.to Int)[k] = true) (Stop := fun _ => closedT ⟨i.to Int, o.to Int⟩ (hb.to Wt).length (a.to Int) = false)
    (c2W (fun _ : Unit => [(100000, OBlk.cells 81 [SV.dat ha, SV.dat hb, SV.dat hc, SV.dat i, SV.dat o]), (100001, OBlk.cells 4 [SV.lb false]), (100002, OBlk.cells 108 [SV.vec 100005]), (100003, OBlk.cells 22 [SV.dat a]), (100004, OBlk.cells 81 [SV.dat ha, SV.dat hb, SV.dat hc, SV.dat i, SV.dat o]), (100005, OBlk.arr 4 q)]) _ ra rw' la (cl_in_set rw' ri ro ra lw la li lo hset))
    () (fun k _ h => absurd h (Nat.not_lt_zero _)) rfl rfl rfl rfl rfl rfl (fun _ => rfl) (fun j => (cmR ha hb hc i o a (a.getInt (Int.toNat (j : Int)) 0)).set 7 (.int .i64 (a.getInt (Int.toNat (j : Int)) 0))) (fun _ _ => cmM ha hb hc i o a q) ?_ ?_ ?_ ?_
  · intro C1 s j hrd hj hi
    apply execP_sound (noCtr _) 100
    refine holds_of (cma_go ha hb hc i o a q (a.getInt (Int.toNat (j : Int)) 0)) ?_
    exact end_here hrd ⟨rfl, rfl, rfl⟩
  · intro C1 s j hrd hj hi
    have hj' : j < (a.to Int).length := by omega
    have hz := (int_at ra hj').2.2
    apply execP_sound ctBOk 100
    rw [cmb_go]
    rw [hz]
    refine cm_inner rw' ri ro ra lw la li lo hset hrd hq hqs hqt hj' (fun h T m hp => ⟨fun _ => ⟨(), MemTo.perm hp, fun k hk hkj => ?_⟩, (fun h => by cases h)⟩) (fun h T m hp => ⟨(fun h => by cases h), fun _ => ⟨(), MemTo.perm hp, ?_⟩⟩)
    · by_cases e : k = j
      · subst e; exact h
      · exact hi k hk (by omega)
    · show closedT _ _ _ = false
      unfold closedT
      rw [List.all_eq_false]
      exact ⟨_, List.getElem_mem hj', by rw [h]; decide⟩
  · intro D2 s hi
    apply execQ_sound ctBOk 300
    rw [cme_in]
    refine ret_marked (ret_marked (ret_lb (.symm ?_)))
    unfold closedT
    rw [List.all_eq_true]
    intro b hb'
    obtain ⟨k, hk, rfl⟩ := List.getElem_of_mem hb'
    exact hi k hk (by omega)
  · intro D2 s hs
    apply execQ_sound ctBOk 300
    rw [cms_in]
    exact ret_marked (ret_marked (ret_lb (.symm hs)))
end

theorem lawIsCl : Law Try.prog 45 ((rdCk.two rdD).sp spIsCl) := by
  refine law_in _ (by kernel_rfl) fun H w ⟨⟨ha, hb, hc, i, o⟩, a⟩ hok hp => ?_
  obtain ⟨rw', ri, ro, ra, lw, la, li, lo, hset⟩ := hp _ (List.mem_singleton.2 rfl)
  simp only at rw' ri ro ra lw la li lo hset
  have al := D.Is.length (α := Int) a
  have bl := D.Is.length (α := Wt) hb
  apply execQ_sound ctBOk 300
  rw [show (rdCk.two rdD).canon (⟨ha, hb, hc, i, o⟩, a) = [.agg [.dat ha, .dat hb, .dat hc, .dat i, .dat o], .dat a] from rfl, icl_in]
  refine ⟨⟨by omega, rfl, by omega, by omega⟩, fun hs => ?_⟩
  refine pin_to 100000 ⟨⟨45, none, none, Item.code (cAt Try.prog 45 [1, 1, 0, 1, 0]) :: clK, clT a⟩, [], [(100000, OBlk.cells 81 [SV.dat ha, SV.dat hb, SV.dat hc, SV.dat i, SV.dat o]), (100001, OBlk.cells 4 [SV.lb false]), (100002, OBlk.cells 108 [SV.vec 100005]), (100003, OBlk.cells 22 [SV.dat a]), (100004, OBlk.cells 81 [SV.dat ha, SV.dat hb, SV.dat hc, SV.dat i, SV.dat o]), (100005, OBlk.arr 4 (D.slc (D.hd (hs 0 0)) 1 (List.replicate (Int.toNat (D.len hb : Int)) [D.bool false])))]⟩ (by kernel_rfl) ?_ rfl
  have hq0 : (D.slc (D.hd (hs 0 0)) 1 (List.replicate (Int.toNat (D.len hb : Int)) [D.bool false])).Is Bool ∧ (D.slc (D.hd (hs 0 0)) 1 (List.replicate (Int.toNat (D.len hb : Int)) [D.bool false])).to Bool = List.replicate (hb.to Wt).length false :=
    is_of rfl ⟨fun r hr => by rw [List.eq_of_mem_replicate hr]; exact ok_bool false, by simp [bl]⟩
  generalize D.slc (D.hd (hs 0 0)) 1 (List.replicate (Int.toNat (D.len hb : Int)) [D.bool false]) = q0 at hq0
  refine runs_perm (clM ha hb hc i o a q0) ?_ ?_
  · exact (perm_front [(100000, OBlk.cells 81 [SV.dat ha, SV.dat hb, SV.dat hc, SV.dat i, SV.dat o]), (100001, OBlk.cells 4 [SV.lb false]), (100002, OBlk.cells 108 [SV.vec 100005])] [(100003, OBlk.cells 22 [SV.dat a]), (100004, OBlk.cells 81 [SV.dat ha, SV.dat hb, SV.dat hc, SV.dat i, SV.dat o])] [(100005, OBlk.arr 4 q0)])
  rw [clF1]
  refine runs_range icode (mm := fun q : D => clM ha hb hc i o a q) (Inv := fun j q => q.Is Bool ∧ q.to Bool = inL (hb.to Wt).length ((a.to Int).take j)) (Stop := fun _ => False)
    (c1W (fun q : D => [(100000, OBlk.cells 81 [SV.dat ha, SV.dat hb, SV.dat hc, SV.dat i, SV.dat o]), (100001, OBlk.cells 4 [SV.lb false]), (100002, OBlk.cells 108 [SV.vec 100005]), (100005, OBlk.arr 4 q)]) _ ra rw' la (cl_in_set rw' ri ro ra lw la li lo hset))
    q0 ⟨hq0.1, by rw [hq0.2, List.take_zero, inL_nil]⟩ rfl rfl rfl rfl rfl rfl (fun _ => rfl) (fun j => (clR hb a (a.getInt (Int.toNat (j : Int)) 0)).set 6 (.int .i64 (a.getInt (Int.toNat (j : Int)) 0))) (fun _ q => clM ha hb hc i o a q) ?_ ?_ ?_ ?_
  · intro C1 q j hrd hj hi
    apply execP_sound (noCtr _) 100
    refine holds_of (cla_go ha hb hc i o a q (a.getInt (Int.toNat (j : Int)) 0)) ?_
    exact end_here hrd ⟨rfl, rfl, rfl⟩
  · intro C1 q j hrd hj ⟨hq, hqt⟩
    have hj' : j < (a.to Int).length := by omega
    have hz := (int_at ra hj').2.2
    have hzr := setH_in hset hj'
    apply execP_sound (noCtr _) 100
    rw [clb_go]
    rw [hz]
    obtain ⟨z, hzz⟩ := Int.eq_ofNat_of_zero_le hzr.1
    have ql := D.Is.length (α := Bool) q
    rw [hqt, inL_len] at ql
    have hzq : z < (q.to Bool).length := by rw [hqt, inL_len]; omega
    have hsz : q.sz = 1 := hq.size hzq
    obtain ⟨s1, s2⟩ := set_full hq hzq (xs := [D.bool true]) rfl (ok_bool true) rfl
    rw [hzz]
    refine ⟨⟨by omega, by omega, hsz⟩, ⟨by simp only [Int.toNat_natCast]; omega, by omega, hsz⟩, end_here hrd ⟨fun _ => ⟨_, MemTo.refl _, s1, ?_⟩, fun h => by cases h⟩⟩
    refine s2.trans ?_
    rw [hqt, List.take_succ_eq_append_getElem hj', hzz, inL_snoc]
    rfl
  · intro D2 q ⟨hq, hqt⟩
    refine cm_runs rw' ri ro ra lw la li lo hset hq ?_ (by rw [hqt, al, List.take_length])
    rcases Nat.eq_zero_or_pos q.len with h | h
    · exact .inr h
    · exact .inl (hq.size (i := 0) (by rw [← D.Is.length (α := Bool)]; exact h))
  · exact fun _ _ h => h.elim
end Go.Proofs.Ytdiekahpofifeaa
end
section
open Go Go.Proofs Sx
namespace Go.Proofs.Ytdiekahpofifeaa
set_option maxRecDepth 100000
set_option maxHeartbeats 0
noncomputable def ctN : Ctrs := [(41, ctrOf (rdHi.one.sp spCk)), (44, ctrOf ((rdCk.two rdD).sp spIsSet)), (45, ctrOf ((rdCk.two rdD).sp spIsCl)), (42, ctrOf ((rdTl.three rdInt rdInt).sp spBefT))]
noncomputable def ctNR : Ctrs := [(24, ctrOf (rdHi.one.sp spCkI)), (48, ctrOf ((rdD.two rdEv).sp spAt)), (57, ctrOf (rdInt.one.sp spIssE)), (49, ctrOf (rdInt.one.sp spAckE)), (70, ctrOf ((rdD.two rdInt).sp spHas)), (46, ctrOf ((rdD.two rdInt).sp spSet))]
section
variable (n j k : Int) (ha hb hc a : D)
theorem bf_in : exec Try.prog ctN 300 (entry Try.prog 13 [.agg [.dat ha, .dat hb, .dat hc], .int .i64 n, .int .i64 k]) =
 Tree.need (HiD.Right (HiD.mk ha hb hc))
 (.all fun hs =>
 .br (decide (Prod.fst (checkH (HiD.hist (HiD.mk ha hb hc))) = 0))
 (.br (decide (n ≥ 0))
 (.br (decide (n < (↑(D.len hb) : Int)))
 (.br (decide (k ≥ 0))
 (.br (decide (k < (↑(D.len hb) : Int)))
 (.need
 (D.Is Int (D.like (hs 0 0) (Tl.issued (Prod.snd (checkH (HiD.hist (HiD.mk ha hb hc)))))) ∧
 D.Is Int (D.like (hs 0 1) (Tl.acked (Prod.snd (checkH (HiD.hist (HiD.mk ha hb hc)))))) ∧
 0 ≤ n ∧
 n <
 (↑(List.length
 (D.to Int
 (D.like (hs 0 1) (Tl.acked (Prod.snd (checkH (HiD.hist (HiD.mk ha hb hc)))))))) :
 Int) ∧
 0 ≤ k ∧
 k <
 (↑(List.length
 (D.to Int
 (D.like (hs 0 0) (Tl.issued (Prod.snd (checkH (HiD.hist (HiD.mk ha hb hc)))))))) :
 Int))
 (.ret
 (.bool
 (beforeT
 (TlD.tl
 (TlD.mk (D.like (hs 0 0) (Tl.issued (Prod.snd (checkH (HiD.hist (HiD.mk ha hb hc))))))
 (D.like (hs 0 1) (Tl.acked (Prod.snd (checkH (HiD.hist (HiD.mk ha hb hc))))))))
 n k))))
 (.ret (.lb false)))
 (.ret (.lb false)))
 (.ret (.lb false)))
 (.ret (.lb false)))
 (.ret (.lb false))) := by kernel_rfl

theorem cls_in : exec Try.prog ctN 300 (entry Try.prog 15 [.agg [.dat ha, .dat hb, .dat hc], .dat a]) =
 Tree.need (HiD.Right (HiD.mk ha hb hc))
 (.all fun hs =>
 .br (decide (Prod.fst (checkH (HiD.hist (HiD.mk ha hb hc))) = 0))
 (.need (D.Is Int a ∧ D.len a ≤ 1048576 ∧ D.Is Wt (onOk (Prod.fst (checkH (HiD.hist (HiD.mk ha hb hc)))) hb))
 (.br
 (setH (D.to Int a)
 (↑(List.length (D.to Wt (onOk (Prod.fst (checkH (HiD.hist (HiD.mk ha hb hc)))) hb))) : Int))
 (.need
 (D.Is Wt (onOk (Prod.fst (checkH (HiD.hist (HiD.mk ha hb hc)))) hb) ∧
 D.Is Int (D.like (hs 0 0) (Tl.issued (Prod.snd (checkH (HiD.hist (HiD.mk ha hb hc)))))) ∧
 D.Is Int (D.like (hs 0 1) (Tl.acked (Prod.snd (checkH (HiD.hist (HiD.mk ha hb hc)))))) ∧
 D.Is Int a ∧
 D.len (onOk (Prod.fst (checkH (HiD.hist (HiD.mk ha hb hc)))) hb) ≤ 1048576 ∧
 D.len a ≤ 1048576 ∧
 List.length
 (D.to Int
 (D.like (hs 0 0) (Tl.issued (Prod.snd (checkH (HiD.hist (HiD.mk ha hb hc))))))) =
 List.length (D.to Wt (onOk (Prod.fst (checkH (HiD.hist (HiD.mk ha hb hc)))) hb)) ∧
 List.length
 (D.to Int
 (D.like (hs 0 1) (Tl.acked (Prod.snd (checkH (HiD.hist (HiD.mk ha hb hc))))))) =
 List.length (D.to Wt (onOk (Prod.fst (checkH (HiD.hist (HiD.mk ha hb hc)))) hb)) ∧
 setH (D.to Int a)
 (↑(List.length (D.to Wt (onOk (Prod.fst (checkH (HiD.hist (HiD.mk ha hb hc)))) hb))) :
 Int) =
 true)
 (.ret
 (.bool
 (closedT
 (Tl.mk (D.to Int (D.like (hs 0 0) (Tl.issued (Prod.snd (checkH (HiD.hist (HiD.mk ha hb hc)))))))
 (D.to Int (D.like (hs 0 1) (Tl.acked (Prod.snd (checkH (HiD.hist (HiD.mk ha hb hc))))))))
 (List.length (D.to Wt (onOk (Prod.fst (checkH (HiD.hist (HiD.mk ha hb hc)))) hb))) (D.to Int a)))))
 (.ret (.lb false))))
 (.ret (.lb false))) := by kernel_rfl

theorem acd_in : exec Try.prog ctN 300 (entry Try.prog 18 [.agg [.dat ha, .dat hb, .dat hc], .int .i64 n]) =
 Tree.need (HiD.Right (HiD.mk ha hb hc))
 (.all fun hs =>
 .br (Prod.fst (checkH (HiD.hist (HiD.mk ha hb hc))) != 0) (.ret .nils)
 (.leaf
 (Conf.mk
 (SFrm.mk 18 none none
 [Item.inLoop (cAt Try.prog 18 [1, 1, 1, 1, 0, 1, 0, 0]), Item.inBlock 0,
 Item.code (cAt Try.prog 18 [1, 1, 1, 1, 1])]
 (mkJ 0
 [(1, .int .i64 n), (7, .nils),
 (19, .dat (D.like (hs 0 1) (Tl.acked (Prod.snd (checkH (HiD.hist (HiD.mk ha hb hc))))))),
 (20,
 .int .i64
 (↑(D.len (D.like (hs 0 1) (Tl.acked (Prod.snd (checkH (HiD.hist (HiD.mk ha hb hc))))))) : Int)),
 (21, .int .i64 0)]
 0 39))
 [] []))) := by kernel_rfl

theorem rbf_in : exec Try.prog ctNR 300 (entry Try.prog 43 [.agg [.dat ha, .dat hb, .dat hc], .int .i64 n, .int .i64 k]) =
 Tree.all fun hs =>
 .need (D.Is Ev hc ∧ D.len hc ≤ 1048576)
 (.need (D.Is Ev hc ∧ D.len hc ≤ 1048576)
 (.br (decide (atEv (D.to Ev hc) (EvD.ev (EvD.mk 1 n)) ≥ 0))
 (.ret
 (.bool (decide (atEv (D.to Ev hc) (EvD.ev (EvD.mk 1 n)) < atEv (D.to Ev hc) (EvD.ev (EvD.mk 0 k))))))
 (.ret (.lb false)))) := by kernel_rfl

theorem rcl_in : exec Try.prog ctNR 300 (entry Try.prog 47 [.agg [.dat ha, .dat hb, .dat hc], .dat a]) =
 Tree.leaf
 (Conf.mk
 (SFrm.mk 47 none none
 [Item.inLoop (cAt Try.prog 47 [1, 0, 1, 0, 0]), Item.inBlock 0, Item.code (cAt Try.prog 47 [1, 1])]
 (mkJ 0 [(1, .dat a), (2, .ptr 0 0), (5, .int .i64 0)] 0 33))
 [] [(0, OBlk.cells 26 [.dat ha, .dat hb, .dat hc])]) := by kernel_rfl

theorem racd_in : exec Try.prog ctNR 300 (entry Try.prog 19 [.agg [.dat ha, .dat hb, .dat hc], .int .i64 n]) =
 Tree.need (HiD.Right (HiD.mk ha hb hc))
 (.br (Prod.fst (checkH (HiD.hist (HiD.mk ha hb hc))) != 0) (.ret .nils)
 (.leaf
 (Conf.mk
 (SFrm.mk 19 none none
 [Item.inLoop (cAt Try.prog 19 [1, 1, 1, 1, 0, 1, 0, 0]), Item.inBlock 0,
 Item.code (cAt Try.prog 19 [1, 1, 1, 1, 1])]
 (mkJ 0
 [(2, .ptr 0 0),
 (5,
 .int .i64
 (if (if (↑(D.len hc) : Int) < n then (↑(D.len hc) : Int) else n) > 0 then
 if (↑(D.len hc) : Int) < n then (↑(D.len hc) : Int) else n
 else 0)),
 (6, .nils), (7, .int .i64 0)]
 0 37))
 [] [(0, OBlk.cells 26 [.dat ha, .dat hb, .dat hc])]))) := by kernel_rfl


end
end Go.Proofs.Ytdiekahpofifeaa
end
section
open Go Go.Proofs Sx
namespace Go.Proofs.Ytdiekahpofifeaa
set_option maxRecDepth 100000
set_option maxHeartbeats 0
noncomputable def acL (t q : D) (n j : Int) : Conf := Conf.mk (SFrm.mk 18 none none [Item.inLoop (cAt Try.prog 18 [1, 1, 1, 1, 0, 1, 0, 0]), Item.inBlock 0, Item.code (cAt Try.prog 18 [1, 1, 1, 1, 1])] (mkJ 0 [(1, .int .i64 n), (7, .vec 0), (19, .dat t), (20, .int .i64 (t.len : Int)), (21, .int .i64 j)] 0 39)) [] [(0, .arr 3 q)]
noncomputable def racL (ha hb hc q : D) (m j : Int) : Conf := Conf.mk (SFrm.mk 19 none none [Item.inLoop (cAt Try.prog 19 [1, 1, 1, 1, 0, 1, 0, 0]), Item.inBlock 0, Item.code (cAt Try.prog 19 [1, 1, 1, 1, 1])] (mkJ 0 [(2, .ptr 0 0), (5, .int .i64 m), (6, .vec 1), (7, .int .i64 j)] 0 37)) [] [(0, OBlk.cells 26 [.dat ha, .dat hb, .dat hc]), (1, .arr 3 q)]
noncomputable def fstL (q : D) (n j : Int) : Conf := Conf.mk (SFrm.mk 37 none none [Item.inLoop (cAt Try.prog 37 [1, 1, 0, 1, 0, 0]), Item.inBlock 0, Item.code (cAt Try.prog 37 [1, 1, 1])] (mkJ 0 [(0, .int .i64 n), (3, .vec 0), (4, .int .i64 j)] 0 15)) [] [(0, .arr 3 q)]
noncomputable def rclL (ha hb hc a : D) (j : Int) : Conf := Conf.mk (SFrm.mk 47 none none [Item.inLoop (cAt Try.prog 47 [1, 0, 1, 0, 0]), Item.inBlock 0, Item.code (cAt Try.prog 47 [1, 1])] (mkJ 0 [(1, .dat a), (2, .ptr 0 0), (5, .int .i64 j)] 0 33)) [] [(0, OBlk.cells 26 [.dat ha, .dat hb, .dat hc])]
noncomputable def ctNS : Ctrs := (43, ctrOf ((rdHi.three rdInt rdInt).sp spBefR)) :: ctNR
section
variable (n j k m : Int) (ha hb hc a t q : D)
theorem acL_go : exec Try.prog [] 300 (unroll (acL t q n j)) =
 Tree.br (decide (j < (↑(D.len t) : Int)))
 (.need (0 ≤ j ∧ j < (↑(D.len t) : Int) ∧ D.sz t = 1)
 (.need (D.HasCell t (Int.toNat j) 0 (FT.int .i64))
 (.br (decide (D.getInt t (Int.toNat j) 0 ≥ 0))
 (.br (decide (D.getInt t (Int.toNat j) 0 < n))
 (.all fun hs =>
 .need
 (D.sz q = 1 ∧
 D.Fits (D.slc (D.hd (hs 0 0)) 1 [[D.int .i64 j]]) 1 ∧
 (D.len q + D.len (D.slc (D.hd (hs 0 0)) 1 [[D.int .i64 j]])) * 8 ≤ 140737488355328 ∧
 D.len q + D.len (D.slc (D.hd (hs 0 0)) 1 [[D.int .i64 j]]) ≤ 9223372036854775807)
 (.all fun hs_1 =>
 .leaf
 (Conf.mk
 (SFrm.mk 18 none none
 [Item.inLoop (cAt Try.prog 18 [1, 1, 1, 1, 0, 1, 0, 0]), Item.inBlock 0,
 Item.code (cAt Try.prog 18 [1, 1, 1, 1, 1])]
 (mkJ 0
 [(1, .int .i64 n), (7, .vec 0), (19, .dat t),
 (20, .int .i64 (↑(D.len t) : Int)),
 (21, .int .i64 (IntKind.wrap .i64 (j + 1)))]
 0 39))
 []
 [(0,
 OBlk.arr 3
 (D.slc (D.hd (hs_1 0 0)) 1
 (List.append (D.rows q) (D.rows (D.slc (D.hd (hs 0 0)) 1 [[D.int .i64 j]])))))])))
 (.leaf
 (Conf.mk
 (SFrm.mk 18 none none
 [Item.inLoop (cAt Try.prog 18 [1, 1, 1, 1, 0, 1, 0, 0]), Item.inBlock 0,
 Item.code (cAt Try.prog 18 [1, 1, 1, 1, 1])]
 (mkJ 0
 [(1, .int .i64 n), (7, .vec 0), (19, .dat t),
 (20, .int .i64 (↑(D.len t) : Int)),
 (21, .int .i64 (IntKind.wrap .i64 (j + 1)))]
 0 39))
 [] [(0, OBlk.arr 3 q)])))
 (.leaf
 (Conf.mk
 (SFrm.mk 18 none none
 [Item.inLoop (cAt Try.prog 18 [1, 1, 1, 1, 0, 1, 0, 0]), Item.inBlock 0,
 Item.code (cAt Try.prog 18 [1, 1, 1, 1, 1])]
 (mkJ 0
 [(1, .int .i64 n), (7, .vec 0), (19, .dat t), (20, .int .i64 (↑(D.len t) : Int)),
 (21, .int .i64 (IntKind.wrap .i64 (j + 1)))]
 0 39))
 [] [(0, OBlk.arr 3 q)])))))
 (.ret (.dat q)) := by kernel_rfl

theorem racL_go : exec Try.prog ctNR 300 (unroll (racL ha hb hc q m j)) =
 Tree.br (decide (j < (↑(D.len hb) : Int)))
 (.all fun hs =>
 .need (0 ≤ (↑0 : Int) ∧ (↑0 : Int) ≤ m ∧ m ≤ (↑(D.len hc) : Int) ∧ D.Fits hc 2)
 (.need (D.Is Ev (D.sub hc 0 (Int.toNat m)) ∧ D.len (D.sub hc 0 (Int.toNat m)) ≤ 1048576)
 (.br (decide (atEv (D.to Ev (D.sub hc 0 (Int.toNat m))) (EvD.ev (EvD.mk 1 j)) ≥ 0))
 (.all fun hs =>
 .need
 (D.sz q = 1 ∧
 D.Fits (D.slc (D.hd (hs 0 0)) 1 [[D.int .i64 j]]) 1 ∧
 (D.len q + D.len (D.slc (D.hd (hs 0 0)) 1 [[D.int .i64 j]])) * 8 ≤ 140737488355328 ∧
 D.len q + D.len (D.slc (D.hd (hs 0 0)) 1 [[D.int .i64 j]]) ≤ 9223372036854775807)
 (.all fun hs_1 =>
 .leaf
 (Conf.mk
 (SFrm.mk 19 none none
 [Item.inLoop (cAt Try.prog 19 [1, 1, 1, 1, 0, 1, 0, 0]), Item.inBlock 0,
 Item.code (cAt Try.prog 19 [1, 1, 1, 1, 1])]
 (mkJ 0
 [(2, .ptr 0 0), (5, .int .i64 m), (6, .vec 1),
 (7, .int .i64 (IntKind.wrap .i64 (j + 1)))]
 0 37))
 []
 [(0, OBlk.cells 26 [.dat ha, .dat hb, .dat hc]),
 (1,
 OBlk.arr 3
 (D.slc (D.hd (hs_1 0 0)) 1
 (List.append (D.rows q) (D.rows (D.slc (D.hd (hs 0 0)) 1 [[D.int .i64 j]])))))])))
 (.leaf
 (Conf.mk
 (SFrm.mk 19 none none
 [Item.inLoop (cAt Try.prog 19 [1, 1, 1, 1, 0, 1, 0, 0]), Item.inBlock 0,
 Item.code (cAt Try.prog 19 [1, 1, 1, 1, 1])]
 (mkJ 0
 [(2, .ptr 0 0), (5, .int .i64 m), (6, .vec 1),
 (7, .int .i64 (IntKind.wrap .i64 (j + 1)))]
 0 37))
 [] [(0, OBlk.cells 26 [.dat ha, .dat hb, .dat hc]), (1, OBlk.arr 3 q)])))))
 (.ret (.dat q)) := by kernel_rfl


theorem rclL_go : exec Try.prog ctNS 300 (unroll (rclL ha hb hc a j)) =
 Tree.br (decide (j < (↑(D.len a) : Int)))
 (.leaf
 (Conf.mk
 (SFrm.mk 47 none none
 [Item.inLoop (cAt Try.prog 47 [1, 0, 1, 0, 0, 1, 0, 0, 1, 0, 0]), Item.inBlock 2, Item.inBlock 1,
 Item.code (cAt Try.prog 47 [1, 0, 1, 0, 0, 1, 1]), Item.inLoop (cAt Try.prog 47 [1, 0, 1, 0, 0]),
 Item.inBlock 0, Item.code (cAt Try.prog 47 [1, 1])]
 (mkJ 0 [(1, .dat a), (2, .ptr 0 0), (5, .int .i64 j), (6, .int .i64 0)] 0 33))
 [] [(0, OBlk.cells 26 [.dat ha, .dat hb, .dat hc])]))
 (.ret (.lb true)) := by kernel_rfl

theorem rB_in : exec Try.prog ctNS 300 (entry Try.prog 14 [.agg [.dat ha, .dat hb, .dat hc], .int .i64 n, .int .i64 k]) =
 Tree.need (HiD.Right (HiD.mk ha hb hc))
 (.br (decide (Prod.fst (checkH (HiD.hist (HiD.mk ha hb hc))) = 0))
 (.need (D.Is Ev hc ∧ D.len hc ≤ 1048576) (.ret (.bool (beforeR (D.to Ev hc) n k))))
 (.ret (.lb false))) := by kernel_rfl

theorem rC_in : exec Try.prog ((47, ctrOf ((rdHi.two rdD).sp spClR)) :: ctNR) 300 (entry Try.prog 16 [.agg [.dat ha, .dat hb, .dat hc], .dat a]) =
 Tree.need (HiD.Right (HiD.mk ha hb hc))
 (.br (decide (Prod.fst (checkH (HiD.hist (HiD.mk ha hb hc))) = 0))
 (.need (D.Is Int a ∧ D.len a ≤ 1048576)
 (.br (setH (D.to Int a) (↑(D.len hb) : Int))
 (.need (D.Is Ev hc ∧ D.len hc ≤ 1048576 ∧ D.Is Wt hb ∧ D.len hb ≤ 1048576 ∧ D.Is Int a ∧ D.len a ≤ 1048576)
 (.ret (.bool (closedS (D.to Ev hc) (List.length (D.to Wt hb)) (D.to Int a)))))
 (.ret (.lb false))))
 (.ret (.lb false))) := by kernel_rfl

end
end Go.Proofs.Ytdiekahpofifeaa
end
section
open Go
namespace Sx
def idxG {α : Type} (l : List α) (p : α → Bool) : Int := match l.findIdx? p with
  | some i => i
  | none => -1
theorem idxG_hit {α : Type} {l : List α} {p : α → Bool} {j : Nat} (hj : j < l.length) (hpre : (l.take j).findIdx? p = none) (hb : p l[j] = true) : idxG l p = j := by
  have : l.findIdx? p = some j := by
    rw [List.findIdx?_eq_some_iff_getElem]
    refine ⟨hj, hb, fun i hi => ?_⟩
    rw [List.findIdx?_eq_none_iff] at hpre
    have := hpre l[i] (List.mem_take_iff_getElem.2 ⟨i, by omega, rfl⟩)
    simp [this]
  unfold idxG; rw [this]
theorem idxG_miss {α : Type} {l : List α} {p : α → Bool} {j : Nat} (hj : j < l.length) (hpre : (l.take j).findIdx? p = none) (hb : p l[j] = false) : (l.take (j + 1)).findIdx? p = none := by
  rw [List.take_succ_eq_append_getElem hj, List.findIdx?_append, hpre]
  simp [hb]
theorem idxG_none {α : Type} {l : List α} {p : α → Bool} (hpre : (l.take l.length).findIdx? p = none) : idxG l p = -1 := by
  rw [List.take_length] at hpre
  unfold idxG; rw [hpre]
def asc (l : List Int) : Bool := (List.range (l.length - 1)).all fun i => decide (l.getD i 0 < l.getD (i + 1) 0)
theorem asc_iff (l : List Int) : asc l = true ↔ ∀ i, i + 1 < l.length → l.getD i 0 < l.getD (i + 1) 0 := by
  unfold asc
  rw [List.all_eq_true]
  constructor
  · intro h i hi
    exact of_decide_eq_true (h i (List.mem_range.2 (by omega)))
  · intro h i hi
    exact decide_eq_true (h i (by have := List.mem_range.1 hi; omega))

def spAsc (d : D) : SpecR := .scalar [d.Is Int ∧ d.len ≤ 1048576] (.bool (asc (d.to Int)))
def spIxI (x : D × Int) : SpecR := .scalar [x.1.Is Int ∧ x.1.len ≤ 1048576] (.int .i64 (idxG (x.1.to Int) fun y => decide (x.2 = y)))
def spIxB (x : D × Bool) : SpecR := .scalar [x.1.Is Bool ∧ x.1.len ≤ 1048576] (.int .i64 (idxG (x.1.to Bool) fun y => decide (x.2 = y)))
def spHasB (x : D × Bool) : SpecR := .scalar [x.1.Is Bool ∧ x.1.len ≤ 1048576] (.bool ((x.1.to Bool).any fun y => decide (x.2 = y)))
end Sx
end
section
open Go Go.Proofs Sx
namespace Go.Proofs.Ytdiekahpofifeaa
set_option maxRecDepth 100000
set_option maxHeartbeats 0
noncomputable def rcl2L (ha hb hc a : D) (j k : Int) : Conf := Conf.mk (SFrm.mk 47 none none [Item.inLoop (cAt Try.prog 47 [1, 0, 1, 0, 0, 1, 0, 0, 1, 0, 0]), Item.inBlock 2, Item.inBlock 1, Item.code (cAt Try.prog 47 [1, 0, 1, 0, 0, 1, 1]), Item.inLoop (cAt Try.prog 47 [1, 0, 1, 0, 0]), Item.inBlock 0, Item.code (cAt Try.prog 47 [1, 1])] (mkJ 0 [(1, .dat a), (2, .ptr 0 0), (5, .int .i64 j), (6, .int .i64 k)] 0 33)) [] [(0, OBlk.cells 26 [.dat ha, .dat hb, .dat hc])]
noncomputable def ixiL (d : D) (n : Int) (j : Int) : Conf := Conf.mk (SFrm.mk 62 none none [Item.inLoop (cAt Try.prog 62 [1, 0, 1, 0, 0]), Item.inBlock 0, Item.code (cAt Try.prog 62 [1, 1])] (mkJ 0 [(0, .dat d), (1, .int .i64 n), (7, .int .i64 d.len), (8, .int .i64 j)] 0 19)) [] []
noncomputable def ctRs : Ctrs := (63, ctrOf (rdHi.one.sp spCopy)) :: (62, ctrOf ((rdD.two rdInt).sp spIxI)) :: ctN
noncomputable def ctRR : Ctrs := (64, ctrOf (rdHi.one.sp spCopy)) :: (47, ctrOf ((rdHi.two rdD).sp spClR)) :: ctNR
section
variable (n j k m : Int) (ha hb hc a d t q : D)
theorem rcl2L_go : exec Try.prog ctNS 300 (unroll (rcl2L ha hb hc a j k)) =
 Tree.br (decide (k < (↑(D.len hb) : Int)))
 (.all fun hs =>
 .br (beforeR (D.to Ev hc) k (D.getInt a (Int.toNat j) 0))
 (.need (0 ≤ j ∧ j < (↑(D.len a) : Int) ∧ D.sz a = 1)
 (.need (D.HasCell a (Int.toNat j) 0 (FT.int .i64))
 (.need (D.Is Ev hc ∧ D.len hc ≤ 1048576)
 (.need (beforeR (D.to Ev hc) k (D.getInt a (Int.toNat j) 0) = true)
 (.need (beforeR (D.to Ev hc) k (D.getInt a (Int.toNat j) 0) = true)
 (.need (beforeR (D.to Ev hc) k (D.getInt a (Int.toNat j) 0) = true)
 (.need (D.Is Int a ∧ D.len a ≤ 1048576)
 (.need (beforeR (D.to Ev hc) k (D.getInt a (Int.toNat j) 0) = true)
 (.need (beforeR (D.to Ev hc) k (D.getInt a (Int.toNat j) 0) = true)
 (.br (!List.contains (D.to Int a) k) (.ret (.lb false))
 (.leaf
 (Conf.mk
 (SFrm.mk 47 none none
 [Item.inLoop (cAt Try.prog 47 [1, 0, 1, 0, 0, 1, 0, 0, 1, 0, 0]), Item.inBlock 2,
 Item.inBlock 1, Item.code (cAt Try.prog 47 [1, 0, 1, 0, 0, 1, 1]),
 Item.inLoop (cAt Try.prog 47 [1, 0, 1, 0, 0]), Item.inBlock 0,
 Item.code (cAt Try.prog 47 [1, 1])]
 (mkJ 0
 [(1, .dat a), (2, .ptr 0 0), (5, .int .i64 j),
 (6, .int .i64 (IntKind.wrap .i64 (k + 1)))]
 0 33))
 [] [(0, OBlk.cells 26 [.dat ha, .dat hb, .dat hc])]))))))))))))
 (.need (0 ≤ j ∧ j < (↑(D.len a) : Int) ∧ D.sz a = 1)
 (.need (D.HasCell a (Int.toNat j) 0 (FT.int .i64))
 (.need (D.Is Ev hc ∧ D.len hc ≤ 1048576)
 (.need (beforeR (D.to Ev hc) k (D.getInt a (Int.toNat j) 0) = false)
 (.need (beforeR (D.to Ev hc) k (D.getInt a (Int.toNat j) 0) = false)
 (.need (beforeR (D.to Ev hc) k (D.getInt a (Int.toNat j) 0) = false)
 (.need (beforeR (D.to Ev hc) k (D.getInt a (Int.toNat j) 0) = false)
 (.need (beforeR (D.to Ev hc) k (D.getInt a (Int.toNat j) 0) = false)
 (.leaf
 (Conf.mk
 (SFrm.mk 47 none none
 [Item.inLoop (cAt Try.prog 47 [1, 0, 1, 0, 0, 1, 0, 0, 1, 0, 0]), Item.inBlock 2,
 Item.inBlock 1, Item.code (cAt Try.prog 47 [1, 0, 1, 0, 0, 1, 1]),
 Item.inLoop (cAt Try.prog 47 [1, 0, 1, 0, 0]), Item.inBlock 0,
 Item.code (cAt Try.prog 47 [1, 1])]
 (mkJ 0
 [(1, .dat a), (2, .ptr 0 0), (5, .int .i64 j),
 (6, .int .i64 (IntKind.wrap .i64 (k + 1)))]
 0 33))
 [] [(0, OBlk.cells 26 [.dat ha, .dat hb, .dat hc])])))))))))))
 (.leaf
 (Conf.mk
 (SFrm.mk 47 none none
 [Item.inLoop (cAt Try.prog 47 [1, 0, 1, 0, 0]), Item.inBlock 0, Item.code (cAt Try.prog 47 [1, 1])]
 (mkJ 0 [(1, .dat a), (2, .ptr 0 0), (5, .int .i64 (IntKind.wrap .i64 (j + 1)))] 0 33))
 [] [(0, OBlk.cells 26 [.dat ha, .dat hb, .dat hc])])) := by kernel_rfl

theorem ixi_in : exec Try.prog [] 300 (entry Try.prog 62 [.dat d, .int .i64 n]) =
 Tree.leaf
 (Conf.mk
 (SFrm.mk 62 none none
 [Item.inLoop (cAt Try.prog 62 [1, 0, 1, 0, 0]), Item.inBlock 0, Item.code (cAt Try.prog 62 [1, 1])]
 (mkJ 0
 [(0, .dat d), (1, .int .i64 n), (7, .int .i64 (↑(D.len d) : Int)),
 (8, .int .i64 0)]
 0 19))
 [] []) := by kernel_rfl

theorem ixiL_go : exec Try.prog [] 300 (unroll (ixiL d n j)) =
 Tree.br (decide (j < (↑(D.len d) : Int)))
 (.need (0 ≤ j ∧ j < (↑(D.len d) : Int) ∧ D.sz d = 1)
 (.need (D.HasCell d (Int.toNat j) 0 (FT.int .i64))
 (.br (decide (n = D.getInt d (Int.toNat j) 0)) (.ret (.int .i64 j))
 (.leaf
 (Conf.mk
 (SFrm.mk 62 none none
 [Item.inLoop (cAt Try.prog 62 [1, 0, 1, 0, 0]), Item.inBlock 0, Item.code (cAt Try.prog 62 [1, 1])]
 (mkJ 0
 [(0, .dat d), (1, .int .i64 n), (7, .int .i64 (↑(D.len d) : Int)),
 (8, .int .i64 (IntKind.wrap .i64 (j + 1)))]
 0 19))
 [] [])))))
 (.ret (.int .i64 (Int.neg 1))) := by kernel_rfl

theorem rst_in : 
 let z1 := (D.to Wt (onOk (Prod.fst (checkH (HiD.hist (HiD.mk ha hb hc)))) hb))
 execQ Try.prog ctRs 400 (entry Try.prog 27 [.agg [.dat ha, .dat hb, .dat hc], .dat a]) =
 Tree.need (HiD.Right (HiD.mk ha hb hc)) (.all fun hs => .br (Prod.fst (checkH (HiD.hist (HiD.mk ha hb hc))) != 0) (.ret (SV.tup [.agg [.nils, .nils, .nils], .int .i64 (Prod.fst (checkH (HiD.hist (HiD.mk ha hb hc))))]))
 (.need (D.Is Int a ∧ D.len a ≤ 1048576 ∧ D.Is Wt (onOk (Prod.fst (checkH (HiD.hist (HiD.mk ha hb hc)))) hb)) (.br (!setH (D.to Int a) (↑(List.length z1) : Int)) (.ret (SV.tup [.agg [.nils, .nils, .nils], .int .i64 2]))
 (.need (D.Is Wt (onOk (Prod.fst (checkH (HiD.hist (HiD.mk ha hb hc)))) hb) ∧ D.Is Int (D.like (hs 0 0) (Tl.issued (Prod.snd (checkH (HiD.hist (HiD.mk ha hb hc)))))) ∧ D.Is Int (D.like (hs 0 1) (Tl.acked
 (Prod.snd (checkH (HiD.hist (HiD.mk ha hb hc)))))) ∧ D.Is Int a ∧ D.len (onOk (Prod.fst (checkH (HiD.hist (HiD.mk ha hb hc)))) hb) ≤ 1048576 ∧ D.len a ≤ 1048576 ∧ List.length (D.to Int (D.like (hs 0 0)
 (Tl.issued (Prod.snd (checkH (HiD.hist (HiD.mk ha hb hc))))))) = List.length z1 ∧ List.length (D.to Int (D.like (hs 0 1) (Tl.acked (Prod.snd (checkH (HiD.hist (HiD.mk ha hb hc))))))) = List.length z1 ∧ setH
 (D.to Int a) (↑(List.length z1) : Int) = true) (.br (!closedT (Tl.mk (D.to Int (D.like (hs 0 0) (Tl.issued (Prod.snd (checkH (HiD.hist (HiD.mk ha hb hc))))))) (D.to Int (D.like (hs 0 1) (Tl.acked (Prod.snd
 (checkH (HiD.hist (HiD.mk ha hb hc)))))))) (List.length z1) (D.to Int a)) (.ret (SV.tup [.agg [.nils, .nils, .nils], .int .i64 27])) (.leaf (Conf.mk (SFrm.mk 27 none none [Item.code (cAt Try.prog 27 [1, 1, 1, 1, 0, 1, 0]), Item.inBlock 1, Item.code
 (cAt Try.prog 27 [1, 1, 1, 1, 1])] (mkU [(0, SV.junk 0), (1, .dat a), (2, .ptr 0 0), (3, SV.junk 3), (4, .ptr 1 0), (5, SV.junk 5), (6, SV.junk 6), (7, SV.junk 7), (8, .ptr 2 0), (9, SV.junk 9), (11, SV.junk 11),
 (12, SV.junk 12), (13, SV.junk 13), (14, SV.junk 14), (15, SV.junk 15), (16, SV.junk 16), (17, SV.junk 17), (18, SV.junk 18), (19, SV.junk 19), (20, SV.junk 20), (21, SV.junk 21), (22, SV.junk 22), (23, SV.junk 23),
 (24, SV.junk 24), (25, SV.junk 25), (26, SV.junk 26), (27, SV.junk 27), (28, SV.junk 28), (29, SV.junk 29), (30, SV.junk 30), (31, SV.junk 31), (32, SV.junk 32), (33, SV.junk 33), (34, SV.junk 34), (35, SV.junk 35),
 (36, SV.junk 36), (37, SV.junk 37), (38, SV.junk 38), (39, SV.junk 39), (40, SV.junk 40), (41, SV.fn 75 [] [.ptr 3 0, .ptr 4 0]), (42, SV.junk 42), (50, SV.junk 50), (51, SV.junk 51), (52, SV.junk 52),
 (53, SV.junk 53), (54, SV.junk 54), (55, SV.junk 55), (56, SV.junk 56), (57, SV.junk 57), (58, SV.junk 58), (59, SV.junk 59), (60, SV.junk 60), (61, SV.junk 61), (62, SV.junk 62), (63, SV.junk 63), (64, SV.junk 64),
 (65, SV.junk 65), (66, SV.junk 66), (67, SV.junk 67), (68, SV.junk 68), (69, SV.junk 69), (70, SV.junk 70), (71, SV.junk 71), (72, SV.junk 72), (73, SV.junk 73), (74, SV.junk 74)] 0 75)) [] [(0, OBlk.cells 26 [.dat ha, .dat hb, .dat hc]),
 (1, OBlk.cells 26 [.nils, .nils, .nils]), (2, OBlk.cells 26 [.dat ha, .nils, .nils]), (3, OBlk.cells 22 [.dat a]), (4, OBlk.cells 81 [.dat (onOk (Prod.fst (checkH (HiD.hist (HiD.mk ha hb hc)))) ha), .dat
 (onOk (Prod.fst (checkH (HiD.hist (HiD.mk ha hb hc)))) hb), .dat (onOk (Prod.fst (checkH (HiD.hist (HiD.mk ha hb hc)))) hc), .dat (D.like (hs 0 0) (Tl.issued (Prod.snd (checkH (HiD.hist (HiD.mk ha hb hc)))))), .dat
 (D.like (hs 0 1) (Tl.acked (Prod.snd (checkH (HiD.hist (HiD.mk ha hb hc))))))])]))))))) := by
 intros; kernel_rfl

theorem rstR_in : exec Try.prog ctRR 400 (entry Try.prog 28 [.agg [.dat ha, .dat hb, .dat hc], .dat a]) =
 Tree.need (HiD.Right (HiD.mk ha hb hc))
 (.br (Prod.fst (checkH (HiD.hist (HiD.mk ha hb hc))) != 0)
 (.ret
 (SV.tup
 [.agg [.nils, .nils, .nils], .int .i64 (Prod.fst (checkH (HiD.hist (HiD.mk ha hb hc))))]))
 (.need (D.Is Int a ∧ D.len a ≤ 1048576)
 (.br (!setH (D.to Int a) (↑(D.len hb) : Int))
 (.ret (SV.tup [.agg [.nils, .nils, .nils], .int .i64 2]))
 (.need (D.Is Ev hc ∧ D.len hc ≤ 1048576 ∧ D.Is Wt hb ∧ D.len hb ≤ 1048576 ∧ D.Is Int a ∧ D.len a ≤ 1048576)
 (.br (!closedS (D.to Ev hc) (List.length (D.to Wt hb)) (D.to Int a))
 (.ret (SV.tup [.agg [.nils, .nils, .nils], .int .i64 27]))
 (.leaf
 (Conf.mk
 (SFrm.mk 28 none none
 [Item.inLoop (cAt Try.prog 28 [1, 1, 1, 1, 1, 0, 1, 0, 0]), Item.inBlock 0,
 Item.code (cAt Try.prog 28 [1, 1, 1, 1, 1, 1])]
 (mkJ 0 [(1, .dat a), (2, .ptr 0 0), (4, .ptr 1 0), (7, .ptr 2 0), (8, .int .i64 0)] 0
 90))
 []
 [(0, OBlk.cells 26 [.dat ha, .dat hb, .dat hc]), (1, OBlk.cells 26 [.nils, .nils, .nils]),
 (2, OBlk.cells 26 [.dat ha, .nils, .nils])]))))))) := by kernel_rfl

end
end Go.Proofs.Ytdiekahpofifeaa
end
section
open Go Go.Proofs Sx
namespace Go.Proofs.Ytdiekahpofifeaa
set_option maxRecDepth 100000

theorem ctNOk : Ctrs.Ok Try.prog ctN := by
  intro x hx
  simp only [ctN, List.mem_cons, List.not_mem_nil, or_false] at hx
  rcases hx with rfl | rfl | rfl | rfl
  · exact ctrOf_ok lawCk
  · exact ctrOf_ok lawIsSet
  · exact ctrOf_ok lawIsCl
  · exact ctrOf_ok lawBefT
theorem ctNROk : Ctrs.Ok Try.prog ctNR := by
  intro x hx
  simp only [ctNR, List.mem_cons, List.not_mem_nil, or_false] at hx
  rcases hx with rfl | rfl | rfl | rfl | rfl | rfl
  · exact ctrOf_ok lawCkR
  · exact ctrOf_ok lawAt
  · exact ctrOf_ok lawIssE
  · exact ctrOf_ok lawAckE
  · exact ctrOf_ok lawHas
  · exact ctrOf_ok lawSet

theorem lawIxI : Law Try.prog 62 ((rdD.two rdInt).sp spIxI) := by
  refine law_in _ (by kernel_rfl) fun H w ⟨d, n⟩ hok hp => ?_
  obtain ⟨hd, hlen⟩ := hp _ (List.mem_singleton.2 rfl)
  simp only at hd hlen
  have hl := D.Is.length (α := Int) d
  apply exec_sound (noCtr _) 300
  rw [show (rdD.two rdInt).canon (d, n) = [.dat d, .int .i64 n] from rfl, ixi_in]
  refine runs_loop (fun j : Nat => ixiL d n j) (fun j => j ≤ (d.to Int).length ∧ ((d.to Int).take j).findIdx? (fun y => decide (n = y)) = none) (fun j => (d.to Int).length - j) (fun _ => rfl) ?_ 0 ⟨Nat.zero_le _, by simp⟩
  intro j ⟨hj, hpre⟩ ih
  apply exec_sound (noCtr _) 300
  rw [ixiL_go]
  refine ⟨fun hc => ?_, fun hc => ret_int ?_⟩
  · have hc : j < (d.to Int).length := by have := of_decide_eq_true hc; omega
    obtain ⟨c1, c2, c3⟩ := int_at hd hc
    rw [c3]
    refine ⟨c1, c2, fun h => ret_int ?_, fun h => ?_⟩
    · exact (idxG_hit hc hpre h).symm
    · have := ih (j + 1) ⟨hc, idxG_miss hc hpre h⟩ (by omega)
      rw [← wrap_succ hc (by omega)] at this
      exact this
  · have : j = (d.to Int).length := by have := of_decide_eq_false hc; omega
    subst this
    exact (idxG_none hpre).symm

theorem lawBefR : Law Try.prog 43 ((rdHi.three rdInt rdInt).sp spBefR) := by
  refine law_in _ (by kernel_rfl) fun H w ⟨⟨ha, hb, hc⟩, n, k⟩ hok hp => ?_
  obtain ⟨rc, lc⟩ := hp _ (List.mem_singleton.2 rfl)
  simp only at rc lc
  apply exec_sound ctNROk 300
  rw [show (rdHi.three rdInt rdInt).canon (⟨ha, hb, hc⟩, n, k) = [.agg [.dat ha, .dat hb, .dat hc], .int .i64 n, .int .i64 k] from rfl, rbf_in]
  refine fun hs => ⟨⟨rc, lc⟩, ⟨rc, lc⟩, fun h => ret_bool ?_, fun h => ret_lb ?_⟩
  · have e : decide (atEv (hc.to Ev) ⟨1, n⟩ ≥ 0) = true := h
    show decide (atEv (hc.to Ev) ⟨1, n⟩ < atEv (hc.to Ev) ⟨0, k⟩) = beforeR (hc.to Ev) n k
    unfold beforeR; rw [e]; rfl
  · have e : decide (atEv (hc.to Ev) ⟨1, n⟩ ≥ 0) = false := h
    show false = beforeR (hc.to Ev) n k
    unfold beforeR; rw [e]; rfl
theorem ctNSOk : Ctrs.Ok Try.prog ctNS := by
  intro x hx
  rcases List.mem_cons.1 hx with rfl | hx
  · exact ctrOf_ok lawBefR
  · exact ctNROk x hx

theorem lawClR : Law Try.prog 47 ((rdHi.two rdD).sp spClR) := by
  refine law_in _ (by kernel_rfl) fun H w ⟨⟨ha, hb, hc⟩, a⟩ hok hp => ?_
  obtain ⟨rc, lc, rb, lb, ra, la⟩ := hp _ (List.mem_singleton.2 rfl)
  simp only at rc lc rb lb ra la
  have al := D.Is.length (α := Int) a
  have bl := D.Is.length (α := Wt) hb
  apply exec_sound ctNROk 300
  rw [show (rdHi.two rdD).canon (⟨ha, hb, hc⟩, a) = [.agg [.dat ha, .dat hb, .dat hc], .dat a] from rfl, rcl_in]
  refine runs_loop (fun j : Nat => rclL ha hb hc a j) (fun j => j ≤ (a.to Int).length ∧ ∀ x, (hx : x < (a.to Int).length) → x < j → rowOkR (hc.to Ev) (hb.to Wt).length (a.to Int) (a.to Int)[x] = true) (fun j => (a.to Int).length - j) (fun _ => rfl) ?_ 0 ⟨Nat.zero_le _, fun x _ h => absurd h (Nat.not_lt_zero _)⟩
  intro j ⟨hj, hpre⟩ ih
  apply exec_sound ctNSOk 300
  rw [rclL_go]
  refine ⟨fun hcj => ?_, fun hcj => ?_⟩
  · have hcj : j < (a.to Int).length := by have := of_decide_eq_true hcj; omega
    obtain ⟨c1, c2, c3⟩ := int_at ra hcj
    refine runs_loop (fun k : Nat => rcl2L ha hb hc a j k) (fun k => k ≤ (hb.to Wt).length ∧ ∀ x : Nat, x < k → (!beforeR (hc.to Ev) x (a.to Int)[j] || (a.to Int).contains (x : Int)) = true) (fun k => (hb.to Wt).length - k) (fun _ => rfl) ?_ 0 ⟨Nat.zero_le _, fun x h => absurd h (Nat.not_lt_zero _)⟩
    intro k ⟨hk, hpk⟩ ihk
    apply exec_sound ctNSOk 300
    rw [rcl2L_go]
    refine ⟨fun hck hs => ?_, fun hck => ?_⟩
    · have hck : k < (hb.to Wt).length := by have := of_decide_eq_true hck; omega
      have nxt : (!beforeR (hc.to Ev) k (a.to Int)[j] || (a.to Int).contains (k : Int)) = true → Runs Try.prog ⟨w, H⟩ (rcl2L ha hb hc a j (IntKind.i64.wrap ((k : Int) + 1))) (RetS w H (.bool (closedS (hc.to Ev) (hb.to Wt).length (a.to Int)))) := fun h => by
        have := ihk (k + 1) ⟨hck, fun x hx => by
          by_cases e : x = k
          · subst e; exact h
          · exact hpk x (by omega)⟩ (by omega)
        rw [← wrap_succ hck (by omega)] at this
        exact this
      rw [c3]
      refine ⟨fun hbf => ?_, fun hbf => ?_⟩
      · simp only [holds_need]
        refine ⟨c1, c2, ⟨rc, lc⟩, hbf, hbf, hbf, ⟨ra, la⟩, hbf, hbf, fun hn => ret_lb (.symm ?_), fun hn => nxt ?_⟩
        · have hn : (a.to Int).contains (k : Int) = false := by simpa using hn
          unfold closedS
          rw [List.all_eq_false]
          refine ⟨_, List.getElem_mem hcj, ?_⟩
          rw [Bool.not_eq_true]
          unfold rowOkR
          rw [List.all_eq_false]
          exact ⟨k, List.mem_range.2 hck, by rw [hbf, hn]; decide⟩
        · have hn : (a.to Int).contains (k : Int) = true := by simpa using hn
          rw [hn]; simp
      · simp only [holds_need]
        exact ⟨c1, c2, ⟨rc, lc⟩, hbf, hbf, hbf, hbf, hbf, nxt (by rw [hbf]; rfl)⟩
    · have : k = (hb.to Wt).length := by have := of_decide_eq_false hck; omega
      subst this
      have := ih (j + 1) ⟨hcj, fun x hx hxj => by
        by_cases e : x = j
        · subst e
          unfold rowOkR
          rw [List.all_eq_true]
          exact fun y hy => hpk y (List.mem_range.1 hy)
        · exact hpre x hx (by omega)⟩ (by omega)
      rw [← wrap_succ hcj (by omega)] at this
      exact this
  · have : j = (a.to Int).length := by have := of_decide_eq_false hcj; omega
    subst this
    refine ret_lb (.symm ?_)
    unfold closedS
    rw [List.all_eq_true]
    intro b hb'
    obtain ⟨x, hx, rfl⟩ := List.getElem_of_mem hb'
    exact hpre x hx hx

theorem lawBefRef : Law Try.prog 14 ((rdHi.three rdInt rdInt).sp spBef) := by
  refine law_in _ (by kernel_rfl) fun H w ⟨⟨ha, hb, hc⟩, n, k⟩ hok hp => ?_
  have hR : (HiD.mk ha hb hc).Right := hp _ (List.mem_singleton.2 rfl)
  obtain ⟨ra, rb, rc, la, lb, lc, rd⟩ := id hR
  apply exec_sound ctNSOk 300
  rw [show (rdHi.three rdInt rdInt).canon (⟨ha, hb, hc⟩, n, k) = [.agg [.dat ha, .dat hb, .dat hc], .int .i64 n, .int .i64 k] from rfl, rB_in]
  refine ⟨hR, fun h => ⟨⟨rc, lc⟩, ret_bool ?_⟩, fun h => ret_lb ?_⟩
  · show _ = beforeH (HiD.mk ha hb hc).hist n k
    unfold beforeH; rw [h]; rfl
  · show _ = beforeH (HiD.mk ha hb hc).hist n k
    unfold beforeH; rw [h]; rfl

theorem lawClsRef : Law Try.prog 16 ((rdHi.two rdD).sp spCls) := by
  refine law_in _ (by kernel_rfl) fun H w ⟨⟨ha, hb, hc⟩, a⟩ hok hp => ?_
  obtain ⟨hR, hra, hla⟩ := hp _ (List.mem_singleton.2 rfl)
  simp only at hR hra hla
  obtain ⟨ra, rb, rc, la, lb, lc, rd⟩ := id hR
  simp only at ra rb rc la lb lc rd
  have bl := D.Is.length (α := Wt) hb
  apply exec_sound (cs := (47, ctrOf ((rdHi.two rdD).sp spClR)) :: ctNR) (fun x hx => by
    rcases List.mem_cons.1 hx with rfl | hx
    · exact ctrOf_ok lawClR
    · exact ctNROk x hx) 300
  rw [show (rdHi.two rdD).canon (⟨ha, hb, hc⟩, a) = [.agg [.dat ha, .dat hb, .dat hc], .dat a] from rfl, rC_in, bl]
  have e0 : closedB (HiD.mk ha hb hc).hist (a.to Int) = (decide ((checkH (HiD.mk ha hb hc).hist).1 = 0) && (setH (a.to Int) (hb.to Wt).length && closedS (hc.to Ev) (hb.to Wt).length (a.to Int))) := rfl
  refine ⟨hR, fun h => ⟨⟨hra, hla⟩, fun h2 => ⟨⟨rc, lc, rb, by omega, hra, hla⟩, ret_bool ?_⟩, fun h2 => ret_lb ?_⟩, fun h => ret_lb ?_⟩
  · rw [e0, h, h2]; rfl
  · rw [e0, h, h2]; rfl
  · rw [e0, h]; rfl
theorem ck_right {x : HiD} (hR : x.Right) (hc : (checkH x.hist).1 = 0) : ((checkH x.hist).2.issued.length = (x.w.to Wt).length) ∧ ((checkH x.hist).2.acked.length = (x.w.to Wt).length) := by
  obtain ⟨htl, hlen, _⟩ := checkH_ok hc
  exact ⟨hlen, by have := htl.len; have e : x.hist.writes.length = (x.w.to Wt).length := rfl; omega⟩

theorem lawCls : Law Try.prog 15 ((rdHi.two rdD).sp spCls) := by
  refine law_in _ (by kernel_rfl) fun H w ⟨⟨ha, hb, hc⟩, a⟩ hok hp => ?_
  obtain ⟨hR, hra, hla⟩ := hp _ (List.mem_singleton.2 rfl)
  simp only at hR hra hla
  obtain ⟨ra, rb, rc, la, lb, lc, rd⟩ := id hR
  simp only at ra rb rc la lb lc rd
  apply exec_sound ctNOk 300
  rw [show (rdHi.two rdD).canon (⟨ha, hb, hc⟩, a) = [.agg [.dat ha, .dat hb, .dat hc], .dat a] from rfl, cls_in]
  have e0 : closedB (HiD.mk ha hb hc).hist (a.to Int) = (decide ((checkH (HiD.mk ha hb hc).hist).1 = 0) && (setH (a.to Int) (hb.to Wt).length && closedS (hc.to Ev) (hb.to Wt).length (a.to Int))) := rfl
  refine ⟨hR, fun hs => ⟨fun h => ?_, fun h => ret_lb (by rw [e0, h]; rfl)⟩⟩
  have h0 : (checkH (HiD.mk ha hb hc).hist).1 = 0 := of_decide_eq_true h
  obtain ⟨l1, l2⟩ := ck_right hR h0
  simp only [h0, onOk_ok]
  refine ⟨⟨hra, hla, rb⟩, fun h2 => ?_, fun h2 => ret_lb ?_⟩
  · have i1 := D.like_is (hs 0 0) (checkH (HiD.mk ha hb hc).hist).2.issued
    have i2 := D.like_is (hs 0 1) (checkH (HiD.mk ha hb hc).hist).2.acked
    have t1 := D.like_to (hs 0 0) (checkH (HiD.mk ha hb hc).hist).2.issued
    have t2 := D.like_to (hs 0 1) (checkH (HiD.mk ha hb hc).hist).2.acked
    rw [t1, t2]
    refine ⟨⟨rb, i1, i2, hra, lb, hla, l1, l2, h2⟩, ret_bool ?_⟩
    rw [e0, h, h2]
    exact closed_same h0 h2
  · rw [e0, h, h2]; rfl

theorem lawBef : Law Try.prog 13 ((rdHi.three rdInt rdInt).sp spBef) := by
  refine law_in _ (by kernel_rfl) fun H w ⟨⟨ha, hb, hc⟩, n, k⟩ hok hp => ?_
  have hR : (HiD.mk ha hb hc).Right := hp _ (List.mem_singleton.2 rfl)
  obtain ⟨ra, rb, rc, la, lb, lc, rd⟩ := id hR
  simp only at ra rb rc la lb lc rd
  have bl := D.Is.length (α := Wt) hb
  apply exec_sound ctNOk 300
  rw [show (rdHi.three rdInt rdInt).canon (⟨ha, hb, hc⟩, n, k) = [.agg [.dat ha, .dat hb, .dat hc], .int .i64 n, .int .i64 k] from rfl, bf_in]
  have e0 : beforeH (HiD.mk ha hb hc).hist n k = (decide ((checkH (HiD.mk ha hb hc).hist).1 = 0) && beforeR (hc.to Ev) n k) := rfl
  refine ⟨hR, fun hs => ⟨fun h => ?_, fun h => ret_lb (by rw [e0, h]; rfl)⟩⟩
  have h0 : (checkH (HiD.mk ha hb hc).hist).1 = 0 := of_decide_eq_true h
  obtain ⟨l1, l2⟩ := ck_right hR h0
  have htl := (checkH_ok h0).1
  have out : ¬((0 ≤ n ∧ n < ((checkH (HiD.mk ha hb hc).hist).2.issued.length : Int)) ∧ 0 ≤ k ∧ k < ((checkH (HiD.mk ha hb hc).hist).2.issued.length : Int)) → false = beforeH (HiD.mk ha hb hc).hist n k := fun ho => by
    rw [e0, show beforeR (hc.to Ev) n k = false from before_out htl ho, Bool.and_false]
  simp only at l1 l2
  refine ⟨fun h1 => ⟨fun h2 => ⟨fun h3 => ⟨fun h4 => ?_, fun h4 => ret_lb (out ?_)⟩, fun h3 => ret_lb (out ?_)⟩, fun h2 => ret_lb (out ?_)⟩, fun h1 => ret_lb (out ?_)⟩
  · have h1 := of_decide_eq_true h1
    have h2 := of_decide_eq_true h2
    have h3 := of_decide_eq_true h3
    have h4 := of_decide_eq_true h4
    have i1 := D.like_is (hs 0 0) (checkH (HiD.mk ha hb hc).hist).2.issued
    have i2 := D.like_is (hs 0 1) (checkH (HiD.mk ha hb hc).hist).2.acked
    have t1 := D.like_to (hs 0 0) (checkH (HiD.mk ha hb hc).hist).2.issued
    have t2 := D.like_to (hs 0 1) (checkH (HiD.mk ha hb hc).hist).2.acked
    simp only [TlD.tl, t1, t2]
    refine ⟨⟨i1, i2, h1, by omega, h3, by omega⟩, ret_bool ?_⟩
    rw [e0, h, Bool.true_and]
    exact before_same htl ⟨h1, by omega⟩ ⟨h3, by omega⟩
  · have := of_decide_eq_false h4; omega
  · have := of_decide_eq_false h3; omega
  · have := of_decide_eq_false h2; omega
  · have := of_decide_eq_false h1; omega


theorem acd_snoc {h : Hist} {n : Int} {t : List Int} (hc : (checkH h).1 = 0) (ht : t = (checkH h).2.acked) {j : Nat} (hj : j < t.length) :
    ((List.range (j + 1)).map fun (a : Nat) => (a : Int)).filter (fun a => decide (0 ≤ atEv h.events ⟨1, a⟩) && decide (atEv h.events ⟨1, a⟩ < n)) =
      ((List.range j).map fun (a : Nat) => (a : Int)).filter (fun a => decide (0 ≤ atEv h.events ⟨1, a⟩) && decide (atEv h.events ⟨1, a⟩ < n)) ++ (if 0 ≤ t[j] ∧ t[j] < n then [(j : Int)] else []) := by
  subst ht
  have htl := (checkH_ok hc).1
  have e : atEv h.events ⟨1, (j : Int)⟩ = (checkH h).2.acked[j] := (htl.ack j hj).symm
  rw [List.range_succ, List.map_append, List.filter_append]
  congr 1
  simp only [List.map_cons, List.map_nil, List.filter_cons, List.filter_nil, e, Bool.and_eq_true, decide_eq_true_eq]

theorem lawAcd : Law Try.prog 18 ((rdHi.two rdInt).sp spAcd) := by
  refine law_in _ (by kernel_rfl) fun H w ⟨⟨ha, hb, hc⟩, n⟩ hok hp => ?_
  have hR : (HiD.mk ha hb hc).Right := hp _ (List.mem_singleton.2 rfl)
  obtain ⟨ra, rb, rc, la, lb, lc, rd⟩ := id hR
  simp only at ra rb rc la lb lc rd
  have bl := D.Is.length (α := Wt) hb
  apply exec_sound ctNOk 300
  rw [show (rdHi.two rdInt).canon (⟨ha, hb, hc⟩, n) = [.agg [.dat ha, .dat hb, .dat hc], .int .i64 n] from rfl, acd_in]
  refine ⟨hR, fun hs => ⟨fun h => ret_one stands_nils ?_, fun h => ?_⟩⟩
  · have h : (checkH (HiD.mk ha hb hc).hist).1 ≠ 0 := by simpa using h
    show [] = ackedH _ n
    unfold ackedH; rw [if_pos h]
  have h0 : (checkH (HiD.mk ha hb hc).hist).1 = 0 := by simpa using h
  obtain ⟨l1, l2⟩ := ck_right hR h0
  simp only at l1 l2
  have i2 := D.like_is (hs 0 1) (checkH (HiD.mk ha hb hc).hist).2.acked
  have t2 := D.like_to (hs 0 1) (checkH (HiD.mk ha hb hc).hist).2.acked
  generalize D.like (hs 0 1) (checkH (HiD.mk ha hb hc).hist).2.acked = t at i2 t2
  have tl := D.Is.length (α := Int) t
  rw [t2, l2] at tl
  refine vecIn_to 9 3 1 none 7 (acL t (.slc none 1 []) n 0) (by kernel_rfl) ?_
  refine runs_loop (fun q : D × Nat => acL t q.1 n q.2) (fun q => q.2 ≤ (t.to Int).length ∧ q.1.Is Int ∧ q.1.sz = 1 ∧ q.1.len ≤ q.2 ∧ q.1.to Int = ((List.range q.2).map fun (a : Nat) => (a : Int)).filter (fun a => decide (0 ≤ atEv (hc.to Ev) ⟨1, a⟩) && decide (atEv (hc.to Ev) ⟨1, a⟩ < n))) (fun q => (t.to Int).length - q.2) (fun _ => rfl) ?_ (.slc none 1 [], 0) ⟨Nat.zero_le _, is_nil _ _, rfl, Nat.le_refl _, rfl⟩
  intro ⟨q, j⟩ ⟨hj, hq, hz, hql, hto⟩ ih
  simp only at hj hq hz hto hql
  show Runs Try.prog ⟨w, H⟩ (unroll (acL t q n j)) _
  apply exec_sound (noCtr _) 300
  rw [acL_go]
  have tl2 : (t.to Int).length = (hb.to Wt).length := by rw [t2, l2]
  refine ⟨fun hcj => ?_, fun hcj => ret_one (stands_dat hq hto) ?_⟩
  · have hcj : j < (t.to Int).length := by have := of_decide_eq_true hcj; omega
    obtain ⟨c1, c2, c3⟩ := int_at i2 hcj
    have sn := acd_snoc (n := n) h0 t2 hcj
    rw [c3]
    have skip : ¬(0 ≤ (t.to Int)[j] ∧ (t.to Int)[j] < n) → Runs Try.prog ⟨w, H⟩ (acL t q n (IntKind.i64.wrap ((j : Int) + 1))) (RetD w H fun ds => .dat ((ds 0).like (ackedH (HiD.mk ha hb hc).hist n))) := fun hno => by
      have := ih (q, j + 1) ⟨hcj, hq, hz, by simp only; omega, hto.trans (by rw [if_neg hno, List.append_nil] at sn; exact sn.symm)⟩ (by simp only; omega)
      simp only at this
      rw [← wrap_succ hcj (by omega)] at this
      exact this
    refine ⟨c1, c2, fun h1 => ⟨fun h2 hs1 => ?_, fun h2 => skip ?_⟩, fun h1 => skip ?_⟩
    · have h1 := of_decide_eq_true h1
      have h2 := of_decide_eq_true h2
      refine ⟨⟨hz, .inr rfl, by simp only [len_slc, List.length_cons, List.length_nil]; omega, by simp only [len_slc, List.length_cons, List.length_nil]; omega⟩, fun hs2 => ?_⟩
      have hr := rows_app (rows_of hq) (int_one (j : Int))
      obtain ⟨j1, j2⟩ := is_of (h := D.hd (hs2 0 0)) (s := 1) rfl hr
      have := ih (_, j + 1) ⟨hcj, j1, rfl, by simp only [len_slc, append_list, List.length_append, rows_slc, List.length_cons, List.length_nil]; have : q.rows.length = q.len := rfl; omega, j2.trans (by rw [if_pos ⟨h1, h2⟩] at sn; rw [hto]; exact sn.symm)⟩ (by simp only; omega)
      simp only at this
      rw [← wrap_succ hcj (by omega)] at this
      exact this
    · have h2 := of_decide_eq_false h2; omega
    · have h1 := of_decide_eq_false h1; omega
  · have : j = (t.to Int).length := by have := of_decide_eq_false hcj; omega
    subst this
    show _ = ackedH (HiD.mk ha hb hc).hist n
    unfold ackedH
    rw [if_neg (by simp [h0]), tl2]
    rfl

theorem lawAcdR : Law Try.prog 19 ((rdHi.two rdInt).sp spAcd) := by
  refine law_in _ (by kernel_rfl) fun H w ⟨⟨ha, hb, hc⟩, n⟩ hok hp => ?_
  have hR : (HiD.mk ha hb hc).Right := hp _ (List.mem_singleton.2 rfl)
  obtain ⟨ra, rb, rc, la, lb, lc, rd⟩ := id hR
  simp only at ra rb rc la lb lc rd
  have bl := D.Is.length (α := Wt) hb
  have el := D.Is.length (α := Ev) hc
  apply exec_sound ctNROk 300
  rw [show (rdHi.two rdInt).canon (⟨ha, hb, hc⟩, n) = [.agg [.dat ha, .dat hb, .dat hc], .int .i64 n] from rfl, racd_in]
  refine ⟨hR, fun h => ret_one stands_nils ?_, fun h => ?_⟩
  · have h : (checkH (HiD.mk ha hb hc).hist).1 ≠ 0 := by simpa using h
    show [] = ackedH _ n
    unfold ackedH; rw [if_pos h]
  have h0 : (checkH (HiD.mk ha hb hc).hist).1 = 0 := by simpa using h
  have hm : ∃ m : Nat, m ≤ (hc.to Ev).length ∧ (if (if (hc.len : Int) < n then (hc.len : Int) else n) > 0 then (if (hc.len : Int) < n then (hc.len : Int) else n) else 0) = (m : Int) ∧ ∀ x : Int, 0 ≤ x → x < (hc.to Ev).length → (x < m ↔ x < n) := by
    by_cases h1 : (hc.len : Int) < n
    · refine ⟨(hc.to Ev).length, Nat.le_refl _, ?_, fun x h2 h3 => by omega⟩
      rw [if_pos h1]; split <;> omega
    · rw [if_neg h1]
      by_cases h2 : n > 0
      · rw [if_pos h2]; exact ⟨n.toNat, by omega, by omega, fun x h3 h4 => by omega⟩
      · rw [if_neg h2]; exact ⟨0, Nat.zero_le _, rfl, fun x h3 h4 => by omega⟩
  obtain ⟨m, hm1, hm2, hm3⟩ := hm
  rw [hm2]
  refine vecIn_to 9 3 1 none 6 (racL ha hb hc (.slc none 1 []) m 0) (by kernel_rfl) ?_
  have hsub := rc.sub 0 (Int.toNat (m : Int))
  simp only [Int.toNat_natCast, List.drop_zero, Nat.sub_zero] at hsub
  have hsl : (hc.sub 0 m).len ≤ 1048576 := by rw [D.Is.length (α := Ev), hsub.2, List.length_take]; omega
  refine runs_loop (fun q : D × Nat => racL ha hb hc q.1 m q.2) (fun q => q.2 ≤ (hb.to Wt).length ∧ q.1.Is Int ∧ q.1.sz = 1 ∧ q.1.len ≤ q.2 ∧ q.1.to Int = ((List.range q.2).map fun (a : Nat) => (a : Int)).filter (fun a => decide (0 ≤ atEv (hc.to Ev) ⟨1, a⟩) && decide (atEv (hc.to Ev) ⟨1, a⟩ < n))) (fun q => (hb.to Wt).length - q.2) (fun _ => rfl) ?_ (.slc none 1 [], 0) ⟨Nat.zero_le _, is_nil _ _, rfl, Nat.le_refl _, rfl⟩
  intro ⟨q, j⟩ ⟨hj, hq, hz, hql, hto⟩ ih
  simp only at hj hq hz hto hql
  show Runs Try.prog ⟨w, H⟩ (unroll (racL ha hb hc q m j)) _
  apply exec_sound ctNROk 300
  rw [racL_go]
  refine ⟨fun hcj hs0 => ?_, fun hcj => ret_one (stands_dat hq hto) ?_⟩
  · have hcj : j < (hb.to Wt).length := by have := of_decide_eq_true hcj; omega
    have ti := atEv_take_iff (hc.to Ev) ⟨1, (j : Int)⟩ m
    have hcs := atEv_cases (hc.to Ev) ⟨1, (j : Int)⟩
    have e1 : atEv ((hc.sub 0 (Int.toNat (m : Int))).to Ev) (EvD.ev ⟨1, (j : Int)⟩) = atEv ((hc.to Ev).take m) ⟨1, (j : Int)⟩ := by
      simp only [Int.toNat_natCast, hsub.2]; rfl
    have sn : ((List.range (j + 1)).map fun (a : Nat) => (a : Int)).filter (fun a => decide (0 ≤ atEv (hc.to Ev) ⟨1, a⟩) && decide (atEv (hc.to Ev) ⟨1, a⟩ < n)) =
        ((List.range j).map fun (a : Nat) => (a : Int)).filter (fun a => decide (0 ≤ atEv (hc.to Ev) ⟨1, a⟩) && decide (atEv (hc.to Ev) ⟨1, a⟩ < n)) ++ (if atEv ((hc.to Ev).take m) ⟨1, (j : Int)⟩ ≥ 0 then [(j : Int)] else []) := by
      rw [List.range_succ, List.map_append, List.filter_append]
      congr 1
      simp only [List.map_cons, List.map_nil, List.filter_cons, List.filter_nil, Bool.and_eq_true, decide_eq_true_eq]
      by_cases h5 : atEv ((hc.to Ev).take m) ⟨1, (j : Int)⟩ ≥ 0
      · have := ti.1 h5
        rw [if_pos h5, if_pos]
        refine ⟨this.1, (hm3 _ this.1 ?_).1 this.2⟩
        rcases hcs with h6 | h6 <;> omega
      · rw [if_neg h5, if_neg]
        intro h7
        refine h5 (ti.2 ⟨h7.1, (hm3 _ h7.1 ?_).2 h7.2⟩)
        rcases hcs with h6 | h6 <;> omega
    rw [e1]
    refine ⟨⟨by omega, by omega, by omega, rc.fits⟩, ⟨by simpa using hsub.1, by simpa using hsl⟩, fun h1 hs1 => ?_, fun h1 => ?_⟩
    · have h1 := of_decide_eq_true h1
      rw [if_pos h1] at sn
      refine ⟨⟨hz, .inr rfl, by simp only [len_slc, List.length_cons, List.length_nil]; omega, by simp only [len_slc, List.length_cons, List.length_nil]; omega⟩, fun hs2 => ?_⟩
      have hr := rows_app (rows_of hq) (int_one (j : Int))
      obtain ⟨j1, j2⟩ := is_of (h := D.hd (hs2 0 0)) (s := 1) rfl hr
      have := ih (_, j + 1) ⟨hcj, j1, rfl, by simp only [len_slc, append_list, List.length_append, rows_slc, List.length_cons, List.length_nil]; have : q.rows.length = q.len := rfl; omega, j2.trans (by rw [hto]; exact sn.symm)⟩ (by simp only; omega)
      simp only at this
      rw [← wrap_succ hcj (by omega)] at this
      exact this
    · have h1 := of_decide_eq_false h1
      rw [if_neg h1, List.append_nil] at sn
      have := ih (q, j + 1) ⟨hcj, hq, hz, by simp only; omega, hto.trans sn.symm⟩ (by simp only; omega)
      simp only at this
      rw [← wrap_succ hcj (by omega)] at this
      exact this
  · have : j = (hb.to Wt).length := by have := of_decide_eq_false hcj; omega
    subst this
    show _ = ackedH (HiD.mk ha hb hc).hist n
    unfold ackedH
    rw [if_neg (by simp [h0])]
    rfl
end Go.Proofs.Ytdiekahpofifeaa
end
section
open Go Go.Proofs Sx
namespace Go.Proofs.Ytdiekahpofifeaa
set_option maxRecDepth 100000
set_option maxHeartbeats 0
noncomputable def rsK : List Item := [Item.inBlock 1, Item.code (cAt Try.prog 27 [1, 1, 1, 1, 1])]
noncomputable def rsT (a : D) : List SV := mkU [(0, SV.junk 0), (1, .dat a), (2, .ptr 100000 0), (3, SV.junk 3), (4, .ptr 100001 0), (5, SV.junk 5), (6, SV.junk 6), (7, SV.junk 7), (8, .ptr 100002 0), (9, SV.junk 9), (11, SV.junk 11), (12, SV.junk 12), (13, SV.junk 13), (14, SV.junk 14), (15, SV.junk 15), (16, SV.junk 16), (17, SV.junk 17), (18, SV.junk 18), (19, SV.junk 19), (20, SV.junk 20), (21, SV.junk 21), (22, SV.junk 22), (23, SV.junk 23), (24, SV.junk 24), (25, SV.junk 25), (26, SV.junk 26), (27, SV.junk 27), (28, SV.junk 28), (29, SV.junk 29), (30, SV.junk 30), (31, SV.junk 31), (32, SV.junk 32), (33, SV.junk 33), (34, SV.junk 34), (35, SV.junk 35), (36, SV.junk 36), (37, SV.junk 37), (38, SV.junk 38), (39, SV.junk 39), (40, SV.junk 40), (41, SV.fn 75 [] [.ptr 100003 0, .ptr 100004 0]), (42, SV.junk 42), (50, SV.junk 50), (51, SV.junk 51), (52, SV.junk 52), (53, SV.junk 53), (54, SV.junk 54), (55, SV.junk 55), (56, SV.junk 56), (57, SV.junk 57), (58, SV.junk 58), (59, SV.junk 59), (60, SV.junk 60), (61, SV.junk 61), (62, SV.junk 62), (63, SV.junk 63), (64, SV.junk 64), (65, SV.junk 65), (66, SV.junk 66), (67, SV.junk 67), (68, SV.junk 68), (69, SV.junk 69), (70, SV.junk 70), (71, SV.junk 71), (72, SV.junk 72), (73, SV.junk 73), (74, SV.junk 74)] 0 75
noncomputable def rsM (hs ha hb hc ga gb gc i o a q : D) : Mem := (100003, OBlk.cells 22 [.dat a]) :: (100004, OBlk.cells 81 [.dat ha, .dat hb, .dat hc, .dat i, .dat o]) :: [(100000, OBlk.cells 26 [.dat ga, .dat gb, .dat gc]), (100001, OBlk.cells 26 [.nils, .nils, .nils]), (100002, OBlk.cells 26 [.dat hs, .vec 9, .nils]), (9, OBlk.arr 55 q)]
noncomputable def rsN (hs ha hb hc ga gb gc i o a q : D) (z : Int) : Mem := (1010, OBlk.cells 55 [.int .i64 (hb.getInt (Int.toNat z) 0), .int .i64 (hb.getInt (Int.toNat z) 1), .dat (hb.cell (Int.toNat z) 2)]) :: rsM hs ha hb hc ga gb gc i o a q
noncomputable def rsR (hb a : D) (z : Int) : List SV := ((rsT a).set 42 (.int .i64 z)).set 43 (wvH hb z)
theorem rsF1 : cAt Try.prog 27 [1, 1, 1, 1, 0, 1, 0] = .rangeFunc (.tmp 41) #[42, 43] (cAt Try.prog 27 [1, 1, 1, 1, 0, 1, 0, 0]) (cAt Try.prog 27 [1, 1, 1, 1, 0, 1, 0, 1]) := by kernel_rfl
noncomputable def rstL (hs ga gb gc a q p : D) (z : Int) : Conf := Conf.mk (SFrm.mk 27 none none [Item.inLoop (cAt Try.prog 27 [1, 1, 1, 1, 1, 0, 1, 0, 0]), Item.inBlock 3, Item.code (cAt Try.prog 27 [1, 1, 1, 1, 1, 1])] (mkJ 0 [(1, .dat a), (4, .ptr 100001 0), (8, .ptr 100002 0), (51, .dat gc), (52, .int .i64 (gc.len : Int)), (53, .int .i64 z)] 0 75)) [] [(2, OBlk.arr 55 q), (3, OBlk.arr 77 p), (100000, OBlk.cells 26 [.dat ga, .dat gb, .dat gc]), (100001, OBlk.cells 26 [.nils, .nils, .nils]), (100002, OBlk.cells 26 [.dat hs, .vec 2, .vec 3])]
noncomputable def rs1L (ha hb hc a q : D) (z : Int) : Conf := Conf.mk (SFrm.mk 28 none none [Item.inLoop (cAt Try.prog 28 [1, 1, 1, 1, 1, 0, 1, 0, 0]), Item.inBlock 0, Item.code (cAt Try.prog 28 [1, 1, 1, 1, 1, 1])] (mkJ 0 [(1, .dat a), (2, .ptr 0 0), (4, .ptr 1 0), (7, .ptr 2 0), (8, .int .i64 z)] 0 90)) [] [(0, OBlk.cells 26 [.dat ha, .dat hb, .dat hc]), (1, OBlk.cells 26 [.nils, .nils, .nils]), (2, OBlk.cells 26 [.dat ha, .nils, .vec 3]), (3, .arr 77 q)]
noncomputable def rs2L (ha hb hc a q : D) (z x : Int) : Conf := Conf.mk (SFrm.mk 28 none none [Item.inLoop (cAt Try.prog 28 [1, 1, 1, 1, 1, 0, 1, 0, 0, 1, 0, 0, 1, 0, 0]), Item.inBlock 2, Item.inBlock 1, Item.code (cAt Try.prog 28 [1, 1, 1, 1, 1, 0, 1, 0, 0, 1, 1]), Item.inLoop (cAt Try.prog 28 [1, 1, 1, 1, 1, 0, 1, 0, 0]), Item.inBlock 0, Item.code (cAt Try.prog 28 [1, 1, 1, 1, 1, 1])] (mkJ 0 [(1, .dat a), (2, .ptr 0 0), (4, .ptr 1 0), (7, .ptr 2 0), (8, .int .i64 z), (9, .int .i64 x)] 0 90)) [] [(0, OBlk.cells 26 [.dat ha, .dat hb, .dat hc]), (1, OBlk.cells 26 [.nils, .nils, .nils]), (2, OBlk.cells 26 [.dat ha, .nils, .vec 3]), (3, .arr 77 q)]
noncomputable def rs3L (ha hb hc a q p : D) (x : Int) : Conf := Conf.mk (SFrm.mk 28 none none [Item.inLoop (cAt Try.prog 28 [1, 1, 1, 1, 1, 1, 0, 1, 0, 0]), Item.inBlock 4, Item.code (cAt Try.prog 28 [1, 1, 1, 1, 1, 1, 1])] (mkJ 0 [(1, .dat a), (2, .ptr 0 0), (4, .ptr 1 0), (7, .ptr 2 0), (10, .int .i64 x)] 0 90)) [] [(0, OBlk.cells 26 [.dat ha, .dat hb, .dat hc]), (1, OBlk.cells 26 [.nils, .nils, .nils]), (2, OBlk.cells 26 [.dat ha, .vec 3, .vec 4]), (3, .arr 55 p), (4, .arr 77 q)]
section
variable (p : D) (x : Int) (hs ha hb hc ga gb gc i o a q : D) (z : Int)
theorem rsa_go : execP Try.prog [] 100 ⟨⟨27, none, none, [.code (cAt Try.prog 27 [1, 1, 1, 1, 0, 1, 0, 0])], rsR hb a z⟩, [], rsM hs ha hb hc ga gb gc i o a q⟩ =
 Tree.leaf
 (Conf.mk
 (SFrm.mk 27 none none []
 (mkU
 [(0, SV.junk 0), (1, .dat a), (2, .ptr 100000 0), (3, SV.junk 3), (4, .ptr 100001 0), (5, SV.junk 5),
 (6, SV.junk 6), (7, SV.junk 7), (8, .ptr 100002 0), (9, SV.junk 9), (10, .ptr 1010 0), (11, SV.junk 11),
 (12, SV.junk 12), (13, SV.junk 13), (14, SV.junk 14), (15, SV.junk 15), (16, SV.junk 16), (17, SV.junk 17),
 (18, SV.junk 18), (19, SV.junk 19), (20, SV.junk 20), (21, SV.junk 21), (22, SV.junk 22), (23, SV.junk 23),
 (24, SV.junk 24), (25, SV.junk 25), (26, SV.junk 26), (27, SV.junk 27), (28, SV.junk 28), (29, SV.junk 29),
 (30, SV.junk 30), (31, SV.junk 31), (32, SV.junk 32), (33, SV.junk 33), (34, SV.junk 34), (35, SV.junk 35),
 (36, SV.junk 36), (37, SV.junk 37), (38, SV.junk 38), (39, SV.junk 39), (40, SV.junk 40),
 (41, SV.fn 75 [] [.ptr 100003 0, .ptr 100004 0]), (42, .int .i64 z),
 (43,
 .agg
 [.int .i64 (D.getInt hb (Int.toNat z) 0), .int .i64 (D.getInt hb (Int.toNat z) 1),
 .dat (D.cell hb (Int.toNat z) 2)]),
 (50, SV.junk 50), (51, SV.junk 51), (52, SV.junk 52), (53, SV.junk 53), (54, SV.junk 54), (55, SV.junk 55),
 (56, SV.junk 56), (57, SV.junk 57), (58, SV.junk 58), (59, SV.junk 59), (60, SV.junk 60), (61, SV.junk 61),
 (62, SV.junk 62), (63, SV.junk 63), (64, SV.junk 64), (65, SV.junk 65), (66, SV.junk 66), (67, SV.junk 67),
 (68, SV.junk 68), (69, SV.junk 69), (70, SV.junk 70), (71, SV.junk 71), (72, SV.junk 72), (73, SV.junk 73),
 (74, SV.junk 74)]
 0 75))
 []
 [(1010,
 OBlk.cells 55
 [.int .i64 (D.getInt hb (Int.toNat z) 0), .int .i64 (D.getInt hb (Int.toNat z) 1),
 .dat (D.cell hb (Int.toNat z) 2)]),
 (100003, OBlk.cells 22 [.dat a]), (100004, OBlk.cells 81 [.dat ha, .dat hb, .dat hc, .dat i, .dat o]),
 (100000, OBlk.cells 26 [.dat ga, .dat gb, .dat gc]), (100001, OBlk.cells 26 [.nils, .nils, .nils]),
 (100002, OBlk.cells 26 [.dat hs, .vec 9, .nils]), (9, OBlk.arr 55 q)]) := by kernel_rfl

theorem rsb_go : execP Try.prog [] 100 ⟨⟨27, none, none, [.code (cAt Try.prog 27 [1, 1, 1, 1, 0, 1, 0, 1])], (rsR hb a z).set 10 (.ptr 1010 0)⟩, [], rsN hs ha hb hc ga gb gc i o a q z⟩ =
 Tree.all fun hs_1 =>
 .need
 (D.sz q = 3 ∧
 D.Fits
 (D.slc (D.hd (hs_1 0 0)) 3
 [[D.int .i64 (D.getInt hb (Int.toNat z) 0), D.int .i64 (D.getInt hb (Int.toNat z) 1),
 D.cell hb (Int.toNat z) 2]])
 3 ∧
 (D.len q +
 D.len
 (D.slc (D.hd (hs_1 0 0)) 3
 [[D.int .i64 (D.getInt hb (Int.toNat z) 0), D.int .i64 (D.getInt hb (Int.toNat z) 1),
 D.cell hb (Int.toNat z) 2]])) *
 40 ≤
 140737488355328 ∧
 D.len q +
 D.len
 (D.slc (D.hd (hs_1 0 0)) 3
 [[D.int .i64 (D.getInt hb (Int.toNat z) 0), D.int .i64 (D.getInt hb (Int.toNat z) 1),
 D.cell hb (Int.toNat z) 2]]) ≤
 9223372036854775807)
 (.all fun hs_2 =>
 .leaf
 (Conf.mk
 (SFrm.mk 27 none none []
 (mkJ 0
 [(1, .dat a), (2, .ptr 100000 0), (4, .ptr 100001 0), (8, .ptr 100002 0), (10, .ptr 1010 0),
 (41, SV.fn 75 [] [.ptr 100003 0, .ptr 100004 0]), (42, .int .i64 z),
 (43,
 .agg
 [.int .i64 (D.getInt hb (Int.toNat z) 0), .int .i64 (D.getInt hb (Int.toNat z) 1),
 .dat (D.cell hb (Int.toNat z) 2)]),
 (44, .ptr 100002 1), (45, .vec 9),
 (46,
 .agg
 [.int .i64 (D.getInt hb (Int.toNat z) 0), .int .i64 (D.getInt hb (Int.toNat z) 1),
 .dat (D.cell hb (Int.toNat z) 2)]),
 (47, .vec 1047), (48, .vec 1048), (49, .ptr 100002 1)]
 0 75))
 []
 [(1048,
 OBlk.arr 55
 (D.slc (D.hd (hs_2 0 0)) 3
 (List.append (D.rows q)
 (D.rows
 (D.slc (D.hd (hs_1 0 0)) 3
 [[D.int .i64 (D.getInt hb (Int.toNat z) 0),
 D.int .i64 (D.getInt hb (Int.toNat z) 1), D.cell hb (Int.toNat z) 2]]))))),
 (1047,
 OBlk.arr 55
 (D.slc (D.hd (hs_1 0 0)) 3
 [[D.int .i64 (D.getInt hb (Int.toNat z) 0), D.int .i64 (D.getInt hb (Int.toNat z) 1),
 D.cell hb (Int.toNat z) 2]])),
 (1010,
 OBlk.cells 55
 [.int .i64 (D.getInt hb (Int.toNat z) 0), .int .i64 (D.getInt hb (Int.toNat z) 1),
 .dat (D.cell hb (Int.toNat z) 2)]),
 (100003, OBlk.cells 22 [.dat a]),
 (100004, OBlk.cells 81 [.dat ha, .dat hb, .dat hc, .dat i, .dat o]),
 (100000, OBlk.cells 26 [.dat ga, .dat gb, .dat gc]),
 (100001, OBlk.cells 26 [.nils, .nils, .nils]),
 (100002, OBlk.cells 26 [.dat hs, .vec 1048, .nils])])) := by kernel_rfl

theorem rse_in : exec Try.prog ctRs 400 ⟨⟨27, none, none, rsK, rsT a⟩, [], rsM hs ha hb hc ga gb gc i o a q⟩ =
 Tree.leaf
 (Conf.mk
 (SFrm.mk 27 none none
 [Item.inLoop (cAt Try.prog 27 [1, 1, 1, 1, 1, 0, 1, 0, 0]), Item.inBlock 3,
 Item.code (cAt Try.prog 27 [1, 1, 1, 1, 1, 1])]
 (mkJ 0
 [(1, .dat a), (4, .ptr 100001 0), (8, .ptr 100002 0), (51, .dat gc),
 (52, .int .i64 (↑(D.len gc) : Int)), (53, .int .i64 0)]
 0 75))
 []
 [(2, OBlk.arr 55 q), (100000, OBlk.cells 26 [.dat ga, .dat gb, .dat gc]),
 (100001, OBlk.cells 26 [.nils, .nils, .nils]), (100002, OBlk.cells 26 [.dat hs, .vec 2, .nils]),
 (100003, OBlk.cells 22 [.dat a]),
 (100004, OBlk.cells 81 [.dat ha, .dat hb, .dat hc, .dat i, .dat o])]) := by kernel_rfl

theorem rsl_go : exec Try.prog ctRs 400 (unroll (rstL hs ga gb gc a q p z)) =
 Tree.br (decide (z < (↑(D.len gc) : Int)))
 (.need (0 ≤ z ∧ z < (↑(D.len gc) : Int) ∧ D.sz gc = 2)
 (.need (D.HasCells gc (Int.toNat z) 0 [FT.int .i64, FT.int .i64])
 (.need (D.Is Int a ∧ D.len a ≤ 1048576)
 (.br (decide ((idxG (D.to Int a) fun y => decide (D.getInt gc (Int.toNat z) 1 = y)) ≥ 0))
 (.all fun hs_1 =>
 .need
 (D.sz p = 2 ∧
 D.Fits
 (D.slc (D.hd (hs_1 0 0)) 2
 [[D.int .i64 (D.getInt gc (Int.toNat z) 0),
 D.int .i64 (idxG (D.to Int a) fun y => decide (D.getInt gc (Int.toNat z) 1 = y))]])
 2 ∧
 (D.len p +
 D.len
 (D.slc (D.hd (hs_1 0 0)) 2
 [[D.int .i64 (D.getInt gc (Int.toNat z) 0),
 D.int .i64
 (idxG (D.to Int a) fun y => decide (D.getInt gc (Int.toNat z) 1 = y))]])) *
 16 ≤
 140737488355328 ∧
 D.len p +
 D.len
 (D.slc (D.hd (hs_1 0 0)) 2
 [[D.int .i64 (D.getInt gc (Int.toNat z) 0),
 D.int .i64
 (idxG (D.to Int a) fun y => decide (D.getInt gc (Int.toNat z) 1 = y))]]) ≤
 9223372036854775807)
 (.all fun hs_2 =>
 .leaf
 (Conf.mk
 (SFrm.mk 27 none none
 [Item.inLoop (cAt Try.prog 27 [1, 1, 1, 1, 1, 0, 1, 0, 0]), Item.inBlock 3,
 Item.code (cAt Try.prog 27 [1, 1, 1, 1, 1, 1])]
 (mkJ 0
 [(1, .dat a), (4, .ptr 100001 0), (8, .ptr 100002 0), (51, .dat gc),
 (52, .int .i64 (↑(D.len gc) : Int)),
 (53, .int .i64 (IntKind.wrap .i64 (z + 1)))]
 0 75))
 []
 [(2, OBlk.arr 55 q),
 (3,
 OBlk.arr 77
 (D.slc (D.hd (hs_2 0 0)) 2
 (List.append (D.rows p)
 (D.rows
 (D.slc (D.hd (hs_1 0 0)) 2
 [[D.int .i64 (D.getInt gc (Int.toNat z) 0),
 D.int .i64
 (idxG (D.to Int a) fun y => decide (D.getInt gc (Int.toNat z) 1 = y))]]))))),
 (100000, OBlk.cells 26 [.dat ga, .dat gb, .dat gc]),
 (100001, OBlk.cells 26 [.nils, .nils, .nils]),
 (100002, OBlk.cells 26 [.dat hs, .vec 2, .vec 3])])))
 (.leaf
 (Conf.mk
 (SFrm.mk 27 none none
 [Item.inLoop (cAt Try.prog 27 [1, 1, 1, 1, 1, 0, 1, 0, 0]), Item.inBlock 3,
 Item.code (cAt Try.prog 27 [1, 1, 1, 1, 1, 1])]
 (mkJ 0
 [(1, .dat a), (4, .ptr 100001 0), (8, .ptr 100002 0), (51, .dat gc),
 (52, .int .i64 (↑(D.len gc) : Int)),
 (53, .int .i64 (IntKind.wrap .i64 (z + 1)))]
 0 75))
 []
 [(2, OBlk.arr 55 q), (3, OBlk.arr 77 p), (100000, OBlk.cells 26 [.dat ga, .dat gb, .dat gc]),
 (100001, OBlk.cells 26 [.nils, .nils, .nils]),
 (100002, OBlk.cells 26 [.dat hs, .vec 2, .vec 3])]))))))
 (.need (HiD.Right (HiD.mk hs q p))
 (.all fun hs_1 =>
 .ret
 (SV.tup
 [.agg
 [.dat (D.like (hs_1 0 0) (D.to Int hs)), .dat (D.like (hs_1 0 1) (D.to Wt q)),
 .dat (D.like (hs_1 0 2) (D.to Ev p))],
 .int .i64 0]))) := by kernel_rfl

theorem rs1_go : exec Try.prog ctRR 400 (unroll (rs1L ha hb hc a q z)) =
 Tree.br (decide (z < (↑(D.len hc) : Int)))
 (.leaf
 (Conf.mk
 (SFrm.mk 28 none none
 [Item.inLoop (cAt Try.prog 28 [1, 1, 1, 1, 1, 0, 1, 0, 0, 1, 0, 0, 1, 0, 0]), Item.inBlock 2, Item.inBlock 1,
 Item.code (cAt Try.prog 28 [1, 1, 1, 1, 1, 0, 1, 0, 0, 1, 1]),
 Item.inLoop (cAt Try.prog 28 [1, 1, 1, 1, 1, 0, 1, 0, 0]), Item.inBlock 0,
 Item.code (cAt Try.prog 28 [1, 1, 1, 1, 1, 1])]
 (mkJ 0
 [(1, .dat a), (2, .ptr 0 0), (4, .ptr 1 0), (7, .ptr 2 0), (8, .int .i64 z),
 (9, .int .i64 0)]
 0 90))
 []
 [(0, OBlk.cells 26 [.dat ha, .dat hb, .dat hc]), (1, OBlk.cells 26 [.nils, .nils, .nils]),
 (2, OBlk.cells 26 [.dat ha, .nils, .vec 3]), (3, OBlk.arr 77 q)]))
 (.leaf
 (Conf.mk
 (SFrm.mk 28 none none
 [Item.inLoop (cAt Try.prog 28 [1, 1, 1, 1, 1, 1, 0, 1, 0, 0]), Item.inBlock 4,
 Item.code (cAt Try.prog 28 [1, 1, 1, 1, 1, 1, 1])]
 (mkJ 0 [(1, .dat a), (2, .ptr 0 0), (4, .ptr 1 0), (7, .ptr 2 0), (10, .int .i64 0)] 0 90))
 []
 [(0, OBlk.cells 26 [.dat ha, .dat hb, .dat hc]), (1, OBlk.cells 26 [.nils, .nils, .nils]),
 (2, OBlk.cells 26 [.dat ha, .nils, .vec 3]), (3, OBlk.arr 77 q)])) := by kernel_rfl

theorem rs2_go : exec Try.prog ctRR 400 (unroll (rs2L ha hb hc a q z x)) =
 Tree.br (decide (x < (↑(D.len a) : Int)))
 (.all fun hs =>
 .need (0 ≤ x ∧ x < (↑(D.len a) : Int) ∧ D.sz a = 1)
 (.need (D.HasCell a (Int.toNat x) 0 (FT.int .i64))
 (.need (0 ≤ z ∧ z < (↑(D.len hc) : Int) ∧ D.sz hc = 2)
 (.need (D.HasCell hc (Int.toNat z) 1 (FT.int .i64))
 (.br (decide (D.getInt a (Int.toNat x) 0 = D.getInt hc (Int.toNat z) 1))
 (.all fun hs =>
 .need (0 ≤ z ∧ z < (↑(D.len hc) : Int) ∧ D.sz hc = 2)
 (.need (D.HasCell hc (Int.toNat z) 0 (FT.int .i64))
 (.need
 (D.sz q = 2 ∧
 D.Fits
 (D.slc (D.hd (hs 10 0)) 2
 [[D.int .i64 (D.getInt hc (Int.toNat z) 0), D.int .i64 x]])
 2 ∧
 (D.len q +
 D.len
 (D.slc (D.hd (hs 10 0)) 2
 [[D.int .i64 (D.getInt hc (Int.toNat z) 0), D.int .i64 x]])) *
 16 ≤
 140737488355328 ∧
 D.len q +
 D.len
 (D.slc (D.hd (hs 10 0)) 2
 [[D.int .i64 (D.getInt hc (Int.toNat z) 0), D.int .i64 x]]) ≤
 9223372036854775807)
 (.leaf
 (Conf.mk
 (SFrm.mk 28 none none
 [Item.inLoop (cAt Try.prog 28 [1, 1, 1, 1, 1, 0, 1, 0, 0, 1, 0, 0, 1, 0, 0]),
 Item.inBlock 2, Item.inBlock 1,
 Item.code (cAt Try.prog 28 [1, 1, 1, 1, 1, 0, 1, 0, 0, 1, 1]),
 Item.inLoop (cAt Try.prog 28 [1, 1, 1, 1, 1, 0, 1, 0, 0]), Item.inBlock 0,
 Item.code (cAt Try.prog 28 [1, 1, 1, 1, 1, 1])]
 (mkJ 0
 [(1, .dat a), (2, .ptr 0 0), (4, .ptr 1 0), (7, .ptr 2 0),
 (8, .int .i64 z), (9, .int .i64 (IntKind.wrap .i64 (x + 1)))]
 0 90))
 []
 [(0, OBlk.cells 26 [.dat ha, .dat hb, .dat hc]),
 (1, OBlk.cells 26 [.nils, .nils, .nils]),
 (2, OBlk.cells 26 [.dat ha, .nils, .vec 3]),
 (3,
 OBlk.arr 77
 (D.slc (D.hd (hs 11 0)) 2
 (List.append (D.rows q)
 (D.rows
 (D.slc (D.hd (hs 10 0)) 2
 [[D.int .i64 (D.getInt hc (Int.toNat z) 0),
 D.int .i64 x]])))))])))))
 (.leaf
 (Conf.mk
 (SFrm.mk 28 none none
 [Item.inLoop (cAt Try.prog 28 [1, 1, 1, 1, 1, 0, 1, 0, 0, 1, 0, 0, 1, 0, 0]), Item.inBlock 2,
 Item.inBlock 1, Item.code (cAt Try.prog 28 [1, 1, 1, 1, 1, 0, 1, 0, 0, 1, 1]),
 Item.inLoop (cAt Try.prog 28 [1, 1, 1, 1, 1, 0, 1, 0, 0]), Item.inBlock 0,
 Item.code (cAt Try.prog 28 [1, 1, 1, 1, 1, 1])]
 (mkJ 0
 [(1, .dat a), (2, .ptr 0 0), (4, .ptr 1 0), (7, .ptr 2 0), (8, .int .i64 z),
 (9, .int .i64 (IntKind.wrap .i64 (x + 1)))]
 0 90))
 []
 [(0, OBlk.cells 26 [.dat ha, .dat hb, .dat hc]), (1, OBlk.cells 26 [.nils, .nils, .nils]),
 (2, OBlk.cells 26 [.dat ha, .nils, .vec 3]), (3, OBlk.arr 77 q)])))))))
 (.leaf
 (Conf.mk
 (SFrm.mk 28 none none
 [Item.inLoop (cAt Try.prog 28 [1, 1, 1, 1, 1, 0, 1, 0, 0]), Item.inBlock 0,
 Item.code (cAt Try.prog 28 [1, 1, 1, 1, 1, 1])]
 (mkJ 0
 [(1, .dat a), (2, .ptr 0 0), (4, .ptr 1 0), (7, .ptr 2 0),
 (8, .int .i64 (IntKind.wrap .i64 (z + 1)))]
 0 90))
 []
 [(0, OBlk.cells 26 [.dat ha, .dat hb, .dat hc]), (1, OBlk.cells 26 [.nils, .nils, .nils]),
 (2, OBlk.cells 26 [.dat ha, .nils, .vec 3]), (3, OBlk.arr 77 q)])) := by kernel_rfl

theorem rs3_go : exec Try.prog ctRR 400 (unroll (rs3L ha hb hc a q p x)) =
 Tree.br (decide (x < (↑(D.len a) : Int)))
 (.all fun hs =>
 .need (0 ≤ x ∧ x < (↑(D.len a) : Int) ∧ D.sz a = 1)
 (.need (D.HasCell a (Int.toNat x) 0 (FT.int .i64))
 (.need (0 ≤ D.getInt a (Int.toNat x) 0 ∧ D.getInt a (Int.toNat x) 0 < (↑(D.len hb) : Int) ∧ D.sz hb = 3)
 (.need
 (D.HasCells hb (Int.toNat (D.getInt a (Int.toNat x) 0)) 0 [FT.int .i64, FT.int .i64, FT.slc])
 (.need
 (D.sz p = 3 ∧
 D.Fits
 (D.slc (D.hd (hs 10 0)) 3
 [[D.int .i64 (D.getInt hb (Int.toNat (D.getInt a (Int.toNat x) 0)) 0),
 D.int .i64 (D.getInt hb (Int.toNat (D.getInt a (Int.toNat x) 0)) 1),
 D.cell hb (Int.toNat (D.getInt a (Int.toNat x) 0)) 2]])
 3 ∧
 (D.len p +
 D.len
 (D.slc (D.hd (hs 10 0)) 3
 [[D.int .i64 (D.getInt hb (Int.toNat (D.getInt a (Int.toNat x) 0)) 0),
 D.int .i64 (D.getInt hb (Int.toNat (D.getInt a (Int.toNat x) 0)) 1),
 D.cell hb (Int.toNat (D.getInt a (Int.toNat x) 0)) 2]])) *
 40 ≤
 140737488355328 ∧
 D.len p +
 D.len
 (D.slc (D.hd (hs 10 0)) 3
 [[D.int .i64 (D.getInt hb (Int.toNat (D.getInt a (Int.toNat x) 0)) 0),
 D.int .i64 (D.getInt hb (Int.toNat (D.getInt a (Int.toNat x) 0)) 1),
 D.cell hb (Int.toNat (D.getInt a (Int.toNat x) 0)) 2]]) ≤
 9223372036854775807)
 (.leaf
 (Conf.mk
 (SFrm.mk 28 none none
 [Item.inLoop (cAt Try.prog 28 [1, 1, 1, 1, 1, 1, 0, 1, 0, 0]), Item.inBlock 4,
 Item.code (cAt Try.prog 28 [1, 1, 1, 1, 1, 1, 1])]
 (mkJ 0
 [(1, .dat a), (2, .ptr 0 0), (4, .ptr 1 0), (7, .ptr 2 0),
 (10, .int .i64 (IntKind.wrap .i64 (x + 1)))]
 0 90))
 []
 [(0, OBlk.cells 26 [.dat ha, .dat hb, .dat hc]), (1, OBlk.cells 26 [.nils, .nils, .nils]),
 (2, OBlk.cells 26 [.dat ha, .vec 3, .vec 4]),
 (3,
 OBlk.arr 55
 (D.slc (D.hd (hs 11 0)) 3
 (List.append (D.rows p)
 (D.rows
 (D.slc (D.hd (hs 10 0)) 3
 [[D.int .i64 (D.getInt hb (Int.toNat (D.getInt a (Int.toNat x) 0)) 0),
 D.int .i64 (D.getInt hb (Int.toNat (D.getInt a (Int.toNat x) 0)) 1),
 D.cell hb (Int.toNat (D.getInt a (Int.toNat x) 0)) 2]]))))),
 (4, OBlk.arr 77 q)])))))))
 (.need (HiD.Right (HiD.mk ha p q))
 (.all fun hs =>
 .ret
 (SV.tup
 [.agg
 [.dat (D.like (hs 0 0) (D.to Int ha)), .dat (D.like (hs 0 1) (D.to Wt p)),
 .dat (D.like (hs 0 2) (D.to Ev q))],
 .int .i64 0]))) := by kernel_rfl

end
end Go.Proofs.Ytdiekahpofifeaa
end
section
open Go
namespace Sx
theorem setUp_lt {l : List Int} {n : Int} {m : Nat} (h : setUp l n m = true) : ∀ {i k : Nat}, i < k → k < m → l.getD i 0 < l.getD k 0 := by
  intro i k hik hk
  obtain ⟨d, rfl⟩ := Nat.exists_eq_add_of_lt hik
  clear hik
  have step : ∀ q, 0 < q → q < m → l.getD (q - 1) 0 < l.getD q 0 := fun q h0 hq => by
    obtain ⟨e, rfl⟩ := Nat.exists_eq_add_of_le (show q + 1 ≤ m by omega)
    have := setUp_mono h
    simp only [setUp, Bool.and_eq_true, Bool.or_eq_true, decide_eq_true_eq] at this
    have := this.2.2.2
    omega
  induction d with
  | zero => have := step (i + 1) (by omega) (by omega); simpa using this
  | succ d ih =>
    have h1 := ih (by omega)
    have h2 := step (i + (d + 1) + 1) (by omega) hk
    have e : i + (d + 1) + 1 - 1 = i + d + 1 := by omega
    rw [e] at h2
    omega
theorem setH_inj {l : List Int} {n : Int} (h : setH l n = true) {i k : Nat} (hi : i < l.length) (hk : k < l.length) (e : l.getD i 0 = l.getD k 0) : i = k := by
  rcases Nat.lt_trichotomy i k with h1 | h1 | h1
  · have := setUp_lt h h1 hk; omega
  · exact h1
  · have := setUp_lt h h1 hi; omega

theorem range_one (i : Nat) : ∀ n, (List.range n).filter (fun k => decide (k = i)) = if i < n then [i] else []
  | 0 => by simp
  | n + 1 => by
    rw [List.range_succ, List.filter_append, range_one i n]
    by_cases h1 : i < n
    · rw [if_pos h1, if_pos (by omega)]
      simp; omega
    · rw [if_neg h1]
      by_cases h2 : n = i
      · subst h2; simp
      · rw [if_neg (by omega)]; simp [h2]
def evR (set : List Int) (x : Ev) : List Ev := ((List.range set.length).filter fun k => decide (set.getD k 0 = x.write)).map fun (k : Nat) => (⟨x.kind, k⟩ : Ev)
theorem evR_idx {set : List Int} {n : Int} (h : setH set n = true) (x : Ev) : evR set x = if idxG set (fun y => decide (x.write = y)) ≥ 0 then [⟨x.kind, idxG set (fun y => decide (x.write = y))⟩] else [] := by
  unfold evR idxG
  cases hf : set.findIdx? (fun y => decide (x.write = y)) with
  | none =>
    rw [List.findIdx?_eq_none_iff] at hf
    have : (List.range set.length).filter (fun k => decide (set.getD k 0 = x.write)) = [] := by
      rw [List.filter_eq_nil_iff]
      intro k hk
      have hk := List.mem_range.1 hk
      have := hf _ (List.getElem_mem hk)
      rw [getD_lt hk]
      simp only [decide_eq_false_iff_not] at this
      simp only [decide_eq_true_eq]
      exact fun e => this e.symm
    rw [this]; rfl
  | some i =>
    rw [List.findIdx?_eq_some_iff_getElem] at hf
    obtain ⟨hi, h1, _⟩ := hf
    simp only [decide_eq_true_eq] at h1
    have : (List.range set.length).filter (fun k => decide (set.getD k 0 = x.write)) = [i] := by
      have e : (List.range set.length).filter (fun k => decide (set.getD k 0 = x.write)) = (List.range set.length).filter (fun k => decide (k = i)) := by
        apply List.filter_congr
        intro k hk
        have hk := List.mem_range.1 hk
        rw [decide_eq_decide]
        constructor
        · intro e; exact setH_inj h hk hi (by rw [e, getD_lt hi, h1])
        · intro e; subst e; rw [getD_lt hk, h1]
      rw [e, range_one, if_pos hi]
    rw [this]
    simp only
    rw [if_pos (by omega)]
    rfl
def restE (set : List Int) (l : List Ev) : List Ev := l.flatMap (evR set)
theorem restE_snoc {set : List Int} {l : List Ev} {j : Nat} (hj : j < l.length) : restE set (l.take (j + 1)) = restE set (l.take j) ++ evR set l[j] := by
  unfold restE
  rw [List.take_succ_eq_append_getElem hj, List.flatMap_append]
  simp
theorem evR_len {set : List Int} {n : Int} (h : setH set n = true) (x : Ev) : (evR set x).length ≤ 1 := by
  rw [evR_idx h]; split <;> simp
theorem restE_len {set : List Int} {n : Int} (h : setH set n = true) : ∀ l : List Ev, (restE set l).length ≤ l.length
  | [] => by simp [restE]
  | x :: r => by
    have h1 := evR_len h x
    have h2 := restE_len h r
    simp only [restE, List.flatMap_cons, List.length_append, List.length_cons] at h2 ⊢
    omega
def zWt : Wt := ⟨0, 0, []⟩
def pickW (ws : List Wt) (set : List Int) : List Wt := set.map fun n => ws.getD n.toNat zWt
def restrictH (h : Hist) (set : List Int) : Hist × Int :=
  if (checkH h).1 ≠ 0 then (zHist, (checkH h).1)
  else if setH set h.writes.length = false then (zHist, 2)
  else if closedS h.events h.writes.length set = false then (zHist, 27)
  else (⟨h.sizes, pickW h.writes set, restE set h.events⟩, 0)
theorem rest_e1 {h : Hist} {set : List Int} (h1 : (checkH h).1 ≠ 0) : restrictH h set = (zHist, (checkH h).1) := by unfold restrictH; rw [if_pos h1]
theorem rest_e2 {h : Hist} {set : List Int} (h1 : (checkH h).1 = 0) (h2 : setH set h.writes.length = false) : restrictH h set = (zHist, 2) := by unfold restrictH; rw [if_neg (by simp [h1]), if_pos h2]
theorem rest_e27 {h : Hist} {set : List Int} (h1 : (checkH h).1 = 0) (h2 : setH set h.writes.length = true) (h3 : closedS h.events h.writes.length set = false) : restrictH h set = (zHist, 27) := by
  unfold restrictH; rw [if_neg (by simp [h1]), if_neg (by simp [h2]), if_pos h3]
theorem rest_ok {h : Hist} {set : List Int} (h1 : (checkH h).1 = 0) (h2 : setH set h.writes.length = true) (h3 : closedS h.events h.writes.length set = true) : restrictH h set = (⟨h.sizes, pickW h.writes set, restE set h.events⟩, 0) := by
  unfold restrictH; rw [if_neg (by simp [h1]), if_neg (by simp [h2]), if_neg (by simp [h3])]
noncomputable def spRest (x : HiD × D) : SpecR := .data [x.1.Right ∧ x.2.Is Int ∧ x.2.len ≤ 1048576] fun ds => .tup [hiSV ds (restrictH x.1.hist (x.2.to Int)).1, .int .i64 (restrictH x.1.hist (x.2.to Int)).2]
theorem pickW_snoc {ws : List Wt} {set : List Int} {j : Nat} (hj : j < set.length) : pickW ws (set.take (j + 1)) = pickW ws (set.take j) ++ [ws.getD (set[j]).toNat zWt] := by
  unfold pickW; rw [List.take_succ_eq_append_getElem hj, List.map_append]; rfl
theorem pickW_len (ws : List Wt) (set : List Int) : (pickW ws set).length = set.length := by simp [pickW]
end Sx
end
section
open Go Go.Proofs Sx
namespace Go.Proofs.Ytdiekahpofifeaa
set_option maxRecDepth 100000

theorem ctRsOk : Ctrs.Ok Try.prog ctRs := by
  intro x hx
  rcases List.mem_cons.1 hx with rfl | hx
  · exact ctrOf_ok lawCopied
  rcases List.mem_cons.1 hx with rfl | hx
  · exact ctrOf_ok lawIxI
  · exact ctNOk x hx
theorem ctRROk : Ctrs.Ok Try.prog ctRR := by
  intro x hx
  rcases List.mem_cons.1 hx with rfl | hx
  · exact ctrOf_ok lawCopyR
  rcases List.mem_cons.1 hx with rfl | hx
  · exact ctrOf_ok lawClR
  · exact ctNROk x hx

section
variable {H : HV} {w : World} {ha hb hc a : D} (hR : (HiD.mk ha hb hc).Right) (hra : a.Is Int) (hla : a.len ≤ 1048576)
  (h0 : (checkH (HiD.mk ha hb hc).hist).1 = 0) (h2 : setH (a.to Int) (hb.to Wt).length = true) (h3 : closedS (hc.to Ev) (hb.to Wt).length (a.to Int) = true)
include hR hra hla h0 h2 h3

theorem rest_result {q p : D} (hq : q.Is Wt) (hql : q.len ≤ 1048576) (hqt : q.to Wt = pickW (hb.to Wt) (a.to Int)) (hp : p.Is Ev) (hpl : p.len ≤ 1048576) (hpt : p.to Ev = restE (a.to Int) (hc.to Ev)) :
    (HiD.mk ha q p).Right ∧ ∀ hs : Nat → Nat → D, (Tree.ret (SV.tup [SV.agg [SV.dat (D.like (hs 0 0) (ha.to Int)), SV.dat (D.like (hs 0 1) (q.to Wt)), SV.dat (D.like (hs 0 2) (p.to Ev))], SV.int IntKind.i64 0])).holds Try.prog ⟨w, H⟩
      (RetD w H fun ds => .tup [hiSV ds (restrictH (HiD.mk ha hb hc).hist (a.to Int)).1, .int .i64 (restrictH (HiD.mk ha hb hc).hist (a.to Int)).2]) := by
  obtain ⟨ra, rb, rc, la, lb, lc, rd⟩ := id hR
  simp only at ra rb rc la lb lc rd
  have hr : restrictH (HiD.mk ha hb hc).hist (a.to Int) = (⟨ha.to Int, q.to Wt, p.to Ev⟩, 0) := by rw [rest_ok h0 h2 h3, hqt, hpt]; rfl
  refine ⟨⟨ra, hq, hp, la, hql, hpl, fun x hx => ?_⟩, fun hs => ?_⟩
  · simp only [hqt, pickW, List.mem_map] at hx
    obtain ⟨n, hn, rfl⟩ := hx
    obtain ⟨k, hk, rfl⟩ := List.getElem_of_mem hn
    have hz := setH_in h2 hk
    have hlt : ((a.to Int)[k]).toNat < (hb.to Wt).length := by omega
    have : (hb.to Wt).getD ((a.to Int)[k]).toNat zWt = (hb.to Wt)[((a.to Int)[k]).toNat] := by simp [hlt]
    rw [this]
    exact rd _ (List.getElem_mem hlt)
  · exact ret_hiI stands_like stands_like stands_like (by rw [hr]) (by rw [hr])
theorem rest_events {Dm : Nat} {q : D} (hq : q.Is Wt) (hqs : q.sz = 3) (hql : q.len ≤ 1048576) (hqt : q.to Wt = pickW (hb.to Wt) (a.to Int)) :
    Runs Try.prog ((⟨w, H⟩ : Ctx).marked Dm) (rstL ha ha hb hc a q (.slc none 2 []) 0) (RetD w H fun ds => .tup [hiSV ds (restrictH (HiD.mk ha hb hc).hist (a.to Int)).1, .int .i64 (restrictH (HiD.mk ha hb hc).hist (a.to Int)).2]) := by
  obtain ⟨ra, rb, rc, la, lb, lc, rd⟩ := id hR
  simp only at ra rb rc la lb lc rd
  have el := D.Is.length (α := Ev) hc
  refine runs_loop (fun p : D × Nat => rstL ha ha hb hc a q p.1 p.2) (fun p => p.2 ≤ (hc.to Ev).length ∧ p.1.Is Ev ∧ p.1.sz = 2 ∧ p.1.to Ev = restE (a.to Int) ((hc.to Ev).take p.2)) (fun p => (hc.to Ev).length - p.2) (fun _ => rfl) ?_ (.slc none 2 [], 0) ⟨Nat.zero_le _, is_nil _ _, rfl, rfl⟩
  intro ⟨p, j⟩ ⟨hj, hp, hz, hto⟩ ih
  simp only at hj hp hz hto
  have pl := D.Is.length (α := Ev) p
  have pl2 := restE_len h2 ((hc.to Ev).take j)
  rw [hto] at pl
  rw [List.length_take] at pl2
  show Runs Try.prog _ (unroll (rstL ha ha hb hc a q p j)) _
  apply exec_sound ctRsOk 400
  rw [rsl_go]
  refine ⟨fun hcj => ?_, fun hcj => ?_⟩
  · have hcj : j < (hc.to Ev).length := by have := of_decide_eq_true hcj; omega
    obtain ⟨c1, c2, c3⟩ := ev_cell rc hcj
    have sn := restE_snoc (set := a.to Int) hcj
    rw [evR_idx h2] at sn
    generalize hev : (hc.to Ev)[j] = ev at c2 c3 sn
    obtain ⟨k, x⟩ := ev
    simp only at c2 c3 sn
    have g0 : hc.getInt (Int.toNat (j : Int)) 0 = k := c2
    have g1 : hc.getInt (Int.toNat (j : Int)) 1 = x := c3
    rw [g0, g1]
    refine ⟨⟨by omega, by omega, rc.size hcj⟩, c1, ⟨hra, hla⟩, fun h hs1 => ?_, fun h => ?_⟩
    · have h := of_decide_eq_true h
      rw [if_pos h] at sn
      refine ⟨⟨hz, .inr rfl, by simp only [len_slc, List.length_cons, List.length_nil]; omega, by simp only [len_slc, List.length_cons, List.length_nil]; omega⟩, fun hs2 => ?_⟩
      have hr := rows_app (rows_of hp) (ev_one k (idxG (a.to Int) fun y => decide (x = y)))
      obtain ⟨i1, i2⟩ := is_of (h := D.hd (hs2 0 0)) (s := 2) rfl hr
      have := ih (_, j + 1) ⟨hcj, i1, rfl, i2.trans (by rw [hto, sn])⟩ (by simp only; omega)
      simp only at this
      rw [← wrap_succ hcj (by omega)] at this
      exact this
    · have h := of_decide_eq_false h
      rw [if_neg h, List.append_nil] at sn
      have := ih (p, j + 1) ⟨hcj, hp, hz, hto.trans sn.symm⟩ (by simp only; omega)
      simp only at this
      rw [← wrap_succ hcj (by omega)] at this
      exact this
  · have : j = (hc.to Ev).length := by have := of_decide_eq_false hcj; omega
    subst this
    rw [List.take_length] at hto
    obtain ⟨x1, x2⟩ := rest_result (w := w) (H := H) hR hra hla h0 h2 h3 hq hql hqt hp (by omega) hto
    exact ⟨x1, fun hs => ret_marked (x2 hs)⟩
theorem rest_loop {i o : D} {q0 : D} (hq0 : q0 = .slc none 3 []) :
    Runs Try.prog ⟨w, H⟩ ⟨⟨27, none, none, Item.code (cAt Try.prog 27 [1, 1, 1, 1, 0, 1, 0]) :: rsK, rsT a⟩, [], rsM ha ha hb hc ha hb hc i o a q0⟩ (RetD w H fun ds => .tup [hiSV ds (restrictH (HiD.mk ha hb hc).hist (a.to Int)).1, .int .i64 (restrictH (HiD.mk ha hb hc).hist (a.to Int)).2]) := by
  obtain ⟨ra, rb, rc, la, lb, lc, rd⟩ := id hR
  simp only at ra rb rc la lb lc rd
  have al := D.Is.length (α := Int) a
  have bl := D.Is.length (α := Wt) hb
  rw [rsF1]
  refine runs_range icode (mm := fun q : D => rsM ha ha hb hc ha hb hc i o a q) (Inv := fun j q => q.Is Wt ∧ q.sz = 3 ∧ q.len = j ∧ q.to Wt = pickW (hb.to Wt) ((a.to Int).take j)) (Stop := fun _ => False)
    (c1W (fun q : D => [(100000, OBlk.cells 26 [SV.dat ha, SV.dat hb, SV.dat hc]), (100001, OBlk.cells 26 [SV.nils, SV.nils, SV.nils]), (100002, OBlk.cells 26 [SV.dat ha, SV.vec 9, SV.nils]), (9, OBlk.arr 55 q)]) _ hra rb hla (fun j hj => by
      have hj' : j < (a.to Int).length := by omega
      have := setH_in h2 hj'
      rw [(int_at hra hj').2.2, bl]
      exact this))
    q0 ⟨by rw [hq0]; exact is_nil _ _, by rw [hq0]; rfl, by rw [hq0]; rfl, by rw [hq0]; rfl⟩ rfl rfl rfl rfl rfl rfl (fun _ => rfl) (fun j => (rsR hb a (a.getInt (Int.toNat (j : Int)) 0)).set 10 (.ptr 1010 0)) (fun j q => rsN ha ha hb hc ha hb hc i o a q (a.getInt (Int.toNat (j : Int)) 0)) ?_ ?_ ?_ ?_
  · intro C1 q j hrd hj hi
    apply execP_sound (noCtr _) 100
    refine holds_of (rsa_go ha ha hb hc ha hb hc i o a q (a.getInt (Int.toNat (j : Int)) 0)) ?_
    exact end_here hrd ⟨rfl, rfl, rfl⟩
  · intro C1 q j hrd hj ⟨hq, hqs, hql, hqt⟩
    have hj' : j < (a.to Int).length := by omega
    have hz := (int_at hra hj').2.2
    have hzr := setH_in h2 hj'
    obtain ⟨z, hzz⟩ := Int.eq_ofNat_of_zero_le hzr.1
    have hzb : z < (hb.to Wt).length := by omega
    obtain ⟨c1, c2, c3⟩ := wt_cell rb hzb
    apply execP_sound (noCtr _) 100
    rw [rsb_go, hz, hzz]
    simp only [Int.toNat_natCast]
    refine fun hs1 => ⟨⟨hqs, .inr rfl, by simp only [len_slc, List.length_cons, List.length_nil]; omega, by simp only [len_slc, List.length_cons, List.length_nil]; omega⟩, fun hs2 => ?_⟩
    have hr := rows_app (rows_of hq) (wt_one (hb.getInt z 0) (hb.getInt z 1) c2)
    obtain ⟨i1, i2⟩ := is_of (h := D.hd (hs2 0 0)) (s := 3) rfl hr
    refine end_here hrd ⟨fun _ => ⟨_, ?_, i1, rfl, ?_, i2.trans ?_⟩, fun h => by cases h⟩
    · refine (MemTo.sub (.cons₂ _ (.cons _ (.cons _ (.refl _))))).trans ((MemTo.move 1048 9 rfl).trans ?_)
      exact MemTo.perm (List.perm_append_comm (l₁ := [_, _, _, _, _]) (l₂ := [_]))
    · simp only [len_slc, append_list, List.length_append, rows_slc, List.length_cons, List.length_nil]
      have : q.rows.length = q.len := rfl
      omega
    · rw [hqt, pickW_snoc hj', hzz]
      congr 1
      have : (hb.to Wt).getD (Int.toNat (z : Int)) zWt = (hb.to Wt)[z] := by simp [hzb]
      rw [this, c3]
  · intro D2 q ⟨hq, hqs, hql, hqt⟩
    apply exec_sound ctRsOk 400
    rw [rse_in]
    refine runs_sub [(2, OBlk.arr 55 q), (100000, OBlk.cells 26 [SV.dat ha, SV.dat hb, SV.dat hc]), (100001, OBlk.cells 26 [SV.nils, SV.nils, SV.nils]), (100002, OBlk.cells 26 [SV.dat ha, SV.vec 2, SV.nils])] (List.sublist_append_left _ [(100003, OBlk.cells 22 [SV.dat a]), (100004, OBlk.cells 81 [SV.dat ha, SV.dat hb, SV.dat hc, SV.dat i, SV.dat o])]) ?_
    refine vecIn_to 9 77 2 (some 100002) 2 (rstL ha ha hb hc a q (.slc none 2 []) 0) (by kernel_rfl) ?_
    exact rest_events hR hra hla h0 h2 h3 hq hqs (by omega) (by rw [hqt, al, List.take_length])
  · exact fun _ _ h => h.elim
end

theorem lawRest : Law Try.prog 27 ((rdHi.two rdD).sp spRest) := by
  refine law_in _ (by kernel_rfl) fun H w ⟨⟨ha, hb, hc⟩, a⟩ hok hp => ?_
  obtain ⟨hR, hra, hla⟩ := hp _ (List.mem_singleton.2 rfl)
  simp only at hR hra hla
  obtain ⟨ra, rb, rc, la, lb, lc, rd⟩ := id hR
  simp only at ra rb rc la lb lc rd
  apply execQ_sound ctRsOk 400
  rw [show (rdHi.two rdD).canon (⟨ha, hb, hc⟩, a) = [.agg [.dat ha, .dat hb, .dat hc], .dat a] from rfl, rst_in]
  refine ⟨hR, fun hs => ⟨fun h => ?_, fun h => ?_⟩⟩
  · have h : (checkH (HiD.mk ha hb hc).hist).1 ≠ 0 := by simpa using h
    exact ret_hiI (s := []) (ws := []) (es := []) stands_nils stands_nils stands_nils (by rw [rest_e1 h]; rfl) (by rw [rest_e1 h])
  have h0 : (checkH (HiD.mk ha hb hc).hist).1 = 0 := by simpa using h
  obtain ⟨l1, l2⟩ := ck_right hR h0
  have i1 := D.like_is (hs 0 0) (checkH (HiD.mk ha hb hc).hist).2.issued
  have i2 := D.like_is (hs 0 1) (checkH (HiD.mk ha hb hc).hist).2.acked
  have t1 := D.like_to (hs 0 0) (checkH (HiD.mk ha hb hc).hist).2.issued
  have t2 := D.like_to (hs 0 1) (checkH (HiD.mk ha hb hc).hist).2.acked
  simp only [h0, onOk_ok]
  rw [t1, t2]
  generalize D.like (hs 0 0) (checkH (HiD.mk ha hb hc).hist).2.issued = i at i1 t1
  generalize D.like (hs 0 1) (checkH (HiD.mk ha hb hc).hist).2.acked = o at i2 t2
  refine ⟨⟨hra, hla, rb⟩, fun h2 => ?_, fun h2 => ⟨⟨rb, i1, i2, hra, lb, hla, l1, l2, by simpa using h2⟩, fun h3 => ?_, fun h3 => ?_⟩⟩
  · have h2 : setH (a.to Int) (hb.to Wt).length = false := by simpa using h2
    have e := rest_e2 (h := (HiD.mk ha hb hc).hist) (set := a.to Int) h0 h2
    exact ret_hiI (s := []) (ws := []) (es := []) stands_nils stands_nils stands_nils (by rw [e]; rfl) (by rw [e])
  · have h2 : setH (a.to Int) (hb.to Wt).length = true := by simpa using h2
    have h3 : closedT (checkH (HiD.mk ha hb hc).hist).2 (hb.to Wt).length (a.to Int) = false := by simpa using h3
    have e := rest_e27 (h := (HiD.mk ha hb hc).hist) (set := a.to Int) h0 h2 (by rw [← closed_same h0 h2]; exact h3)
    exact ret_hiI (s := []) (ws := []) (es := []) stands_nils stands_nils stands_nils (by rw [e]; rfl) (by rw [e])
  · have h2 : setH (a.to Int) (hb.to Wt).length = true := by simpa using h2
    have h3 : closedT (checkH (HiD.mk ha hb hc).hist).2 (hb.to Wt).length (a.to Int) = true := by simpa using h3
    have h3' : closedS (hc.to Ev) (hb.to Wt).length (a.to Int) = true := by rw [← show closedT (checkH (HiD.mk ha hb hc).hist).2 (hb.to Wt).length (a.to Int) = closedS (hc.to Ev) (hb.to Wt).length (a.to Int) from closed_same (h := (HiD.mk ha hb hc).hist) h0 h2]; exact h3
    refine pin_to 100000 ⟨⟨27, none, none, Item.code (cAt Try.prog 27 [1, 1, 1, 1, 0, 1, 0]) :: rsK, rsT a⟩, [], [(100000, OBlk.cells 26 [SV.dat ha, SV.dat hb, SV.dat hc]), (100001, OBlk.cells 26 [SV.nils, SV.nils, SV.nils]), (100002, OBlk.cells 26 [SV.dat ha, SV.nils, SV.nils]), (100003, OBlk.cells 22 [SV.dat a]), (100004, OBlk.cells 81 [SV.dat ha, SV.dat hb, SV.dat hc, SV.dat i, SV.dat o])]⟩ (by kernel_rfl) ?_ rfl
    refine vecIn_sound (K := 9) (e := 55) (sz := 3) (blk := some 100002) (off := 1) (c' := ⟨⟨27, none, none, Item.code (cAt Try.prog 27 [1, 1, 1, 1, 0, 1, 0]) :: rsK, rsT a⟩, [], (9, OBlk.arr 55 (.slc none 3 [])) :: [(100000, OBlk.cells 26 [SV.dat ha, SV.dat hb, SV.dat hc]), (100001, OBlk.cells 26 [SV.nils, SV.nils, SV.nils]), (100002, OBlk.cells 26 [SV.dat ha, SV.vec 9, SV.nils]), (100003, OBlk.cells 22 [SV.dat a]), (100004, OBlk.cells 81 [SV.dat ha, SV.dat hb, SV.dat hc, SV.dat i, SV.dat o])]⟩) (by kernel_rfl) ?_
    refine runs_perm (rsM ha ha hb hc ha hb hc i o a (.slc none 3 [])) ?_ (rest_loop hR hra hla h0 h2 h3' rfl)
    exact ((List.perm_append_comm (l₁ := [(100003, OBlk.cells 22 [SV.dat a]), (100004, OBlk.cells 81 [SV.dat ha, SV.dat hb, SV.dat hc, SV.dat i, SV.dat o])]) (l₂ := [(100000, OBlk.cells 26 [SV.dat ha, SV.dat hb, SV.dat hc]), (100001, OBlk.cells 26 [SV.nils, SV.nils, SV.nils]), (100002, OBlk.cells 26 [SV.dat ha, SV.vec 9, SV.nils])])).append_right [(9, OBlk.arr 55 (.slc none 3 []))]).trans List.perm_append_comm

theorem lawRestR : Law Try.prog 28 ((rdHi.two rdD).sp spRest) := by
  refine law_in _ (by kernel_rfl) fun H w ⟨⟨ha, hb, hc⟩, a⟩ hok hp => ?_
  obtain ⟨hR, hra, hla⟩ := hp _ (List.mem_singleton.2 rfl)
  simp only at hR hra hla
  obtain ⟨ra, rb, rc, la, lb, lc, rd⟩ := id hR
  simp only at ra rb rc la lb lc rd
  have al := D.Is.length (α := Int) a
  have bl := D.Is.length (α := Wt) hb
  have el := D.Is.length (α := Ev) hc
  apply exec_sound ctRROk 400
  rw [show (rdHi.two rdD).canon (⟨ha, hb, hc⟩, a) = [.agg [.dat ha, .dat hb, .dat hc], .dat a] from rfl, rstR_in, bl]
  refine ⟨hR, fun h => ?_, fun h => ?_⟩
  · have h : (checkH (HiD.mk ha hb hc).hist).1 ≠ 0 := by simpa using h
    exact ret_hiI (s := []) (ws := []) (es := []) stands_nils stands_nils stands_nils (by rw [rest_e1 h]; rfl) (by rw [rest_e1 h])
  have h0 : (checkH (HiD.mk ha hb hc).hist).1 = 0 := by simpa using h
  refine ⟨⟨hra, hla⟩, fun h2 => ?_, fun h2 => ⟨⟨rc, lc, rb, by omega, hra, hla⟩, fun h3 => ?_, fun h3 => ?_⟩⟩
  · have h2 : setH (a.to Int) (hb.to Wt).length = false := by simpa using h2
    have e := rest_e2 (h := (HiD.mk ha hb hc).hist) (set := a.to Int) h0 h2
    exact ret_hiI (s := []) (ws := []) (es := []) stands_nils stands_nils stands_nils (by rw [e]; rfl) (by rw [e])
  · have h2 : setH (a.to Int) (hb.to Wt).length = true := by simpa using h2
    have h3 : closedS (hc.to Ev) (hb.to Wt).length (a.to Int) = false := by simpa using h3
    have e := rest_e27 (h := (HiD.mk ha hb hc).hist) (set := a.to Int) h0 h2 h3
    exact ret_hiI (s := []) (ws := []) (es := []) stands_nils stands_nils stands_nils (by rw [e]; rfl) (by rw [e])
  have h2 : setH (a.to Int) (hb.to Wt).length = true := by simpa using h2
  have h3 : closedS (hc.to Ev) (hb.to Wt).length (a.to Int) = true := by simpa using h3
  refine vecIn_to 9 77 2 (some 2) 2 (rs1L ha hb hc a (.slc none 2 []) 0) (by kernel_rfl) ?_
  refine runs_loop (fun p : D × Nat => rs1L ha hb hc a p.1 p.2) (fun p => p.2 ≤ (hc.to Ev).length ∧ p.1.Is Ev ∧ p.1.sz = 2 ∧ p.1.to Ev = restE (a.to Int) ((hc.to Ev).take p.2)) (fun p => (hc.to Ev).length - p.2) (fun _ => rfl) ?_ (.slc none 2 [], 0) ⟨Nat.zero_le _, is_nil _ _, rfl, rfl⟩
  intro ⟨q, j⟩ ⟨hj, hq, hz, hto⟩ ih
  simp only at hj hq hz hto
  have ql := D.Is.length (α := Ev) q
  have ql2 := restE_len h2 ((hc.to Ev).take j)
  rw [hto] at ql
  rw [List.length_take] at ql2
  show Runs Try.prog _ (unroll (rs1L ha hb hc a q j)) _
  apply exec_sound ctRROk 400
  rw [rs1_go]
  refine ⟨fun hcj => ?_, fun hcj => ?_⟩
  · have hcj : j < (hc.to Ev).length := by have := of_decide_eq_true hcj; omega
    obtain ⟨c1, c2, c3⟩ := ev_cell rc hcj
    have sn := restE_snoc (set := a.to Int) hcj
    unfold evR at sn
    generalize hev : (hc.to Ev)[j] = ev at c2 c3 sn
    obtain ⟨k, y⟩ := ev
    simp only at c2 c3 sn
    have g0 : hc.getInt (Int.toNat (j : Int)) 0 = k := c2
    have g1 : hc.getInt (Int.toNat (j : Int)) 1 = y := c3
    have c0 : 0 ≤ (j : Int) ∧ (j : Int) < (hc.len : Int) ∧ hc.sz = 2 := ⟨by omega, by omega, rc.size hcj⟩
    refine runs_loop (fun p : D × Nat => rs2L ha hb hc a p.1 j p.2) (fun p => p.2 ≤ (a.to Int).length ∧ p.1.Is Ev ∧ p.1.sz = 2 ∧ p.1.len ≤ j + p.2 ∧ p.1.to Ev = restE (a.to Int) ((hc.to Ev).take j) ++ ((List.range p.2).filter fun i => decide ((a.to Int).getD i 0 = y)).map fun (i : Nat) => (⟨k, i⟩ : Ev)) (fun p => (a.to Int).length - p.2) (fun _ => rfl) ?_ (q, 0) ⟨Nat.zero_le _, hq, hz, by simp only; omega, by simpa using hto⟩
    intro ⟨p, x⟩ ⟨hx, hp, hpz, hpl, hpt⟩ ihx
    simp only at hx hp hpz hpl hpt
    show Runs Try.prog _ (unroll (rs2L ha hb hc a p j x)) _
    apply exec_sound ctRROk 400
    rw [rs2_go]
    refine ⟨fun hcx hs => ?_, fun hcx => ?_⟩
    · have hcx : x < (a.to Int).length := by have := of_decide_eq_true hcx; omega
      obtain ⟨d1, d2, d3⟩ := int_at hra hcx
      have gx : (a.to Int).getD x 0 = (a.to Int)[x] := getD_lt hcx
      have sx : ((List.range (x + 1)).filter fun i => decide ((a.to Int).getD i 0 = y)) = ((List.range x).filter fun i => decide ((a.to Int).getD i 0 = y)) ++ (if (a.to Int)[x] = y then [x] else []) := by
        rw [List.range_succ, List.filter_append]
        congr 1
        simp only [List.filter_cons, List.filter_nil, gx, decide_eq_true_eq]
      rw [d3, g0, g1]
      refine ⟨d1, d2, c0, c1.2.1, fun h hs1 => ?_, fun h => ?_⟩
      · have h := of_decide_eq_true h
        rw [if_pos h] at sx
        refine ⟨c0, c1.1, ⟨hpz, .inr rfl, by simp only [len_slc, List.length_cons, List.length_nil]; omega, by simp only [len_slc, List.length_cons, List.length_nil]; omega⟩, ?_⟩
        have hr := rows_app (rows_of hp) (ev_one k (x : Int))
        obtain ⟨i1, i2⟩ := is_of (h := D.hd (hs1 11 0)) (s := 2) rfl hr
        have := ihx (_, x + 1) ⟨hcx, i1, rfl, by simp only [len_slc, append_list, List.length_append, rows_slc, List.length_cons, List.length_nil]; have : p.rows.length = p.len := rfl; omega, i2.trans (by rw [hpt, sx, List.map_append, List.append_assoc]; rfl)⟩ (by simp only; omega)
        simp only at this
        rw [← wrap_succ hcx (by omega)] at this
        exact this
      · have h := of_decide_eq_false h
        rw [if_neg h, List.append_nil] at sx
        have := ihx (p, x + 1) ⟨hcx, hp, hpz, by simp only; omega, by simp only; rw [hpt, sx]⟩ (by simp only; omega)
        simp only at this
        rw [← wrap_succ hcx (by omega)] at this
        exact this
    · have : x = (a.to Int).length := by have := of_decide_eq_false hcx; omega
      subst this
      have := ih (p, j + 1) ⟨hcj, hp, hpz, hpt.trans sn.symm⟩ (by simp only; omega)
      simp only at this
      rw [← wrap_succ hcj (by omega)] at this
      exact this
  · have : j = (hc.to Ev).length := by have := of_decide_eq_false hcj; omega
    subst this
    rw [List.take_length] at hto
    refine vecIn_to 9 55 3 (some 2) 1 (rs3L ha hb hc a q (.slc none 3 []) 0) (by kernel_rfl) ?_
    refine runs_loop (fun p : D × Nat => rs3L ha hb hc a q p.1 p.2) (fun p => p.2 ≤ (a.to Int).length ∧ p.1.Is Wt ∧ p.1.sz = 3 ∧ p.1.to Wt = pickW (hb.to Wt) ((a.to Int).take p.2)) (fun p => (a.to Int).length - p.2) (fun _ => rfl) ?_ (.slc none 3 [], 0) ⟨Nat.zero_le _, is_nil _ _, rfl, rfl⟩
    intro ⟨p, x⟩ ⟨hx, hp, hpz, hpt⟩ ihx
    simp only at hx hp hpz hpt
    have pl := D.Is.length (α := Wt) p
    rw [hpt, pickW_len, List.length_take] at pl
    show Runs Try.prog _ (unroll (rs3L ha hb hc a q p x)) _
    apply exec_sound ctRROk 400
    rw [rs3_go]
    refine ⟨fun hcx hs => ?_, fun hcx => ?_⟩
    · have hcx : x < (a.to Int).length := by have := of_decide_eq_true hcx; omega
      obtain ⟨d1, d2, d3⟩ := int_at hra hcx
      have hzr := setH_in h2 hcx
      obtain ⟨z, hzz⟩ := Int.eq_ofNat_of_zero_le hzr.1
      have hzb : z < (hb.to Wt).length := by omega
      obtain ⟨c1, c2, c3⟩ := wt_cell rb hzb
      rw [d3, hzz]
      simp only [Int.toNat_natCast]
      refine ⟨by simpa using d1, by simpa using d2, ⟨by omega, by omega, rb.size hzb⟩, c1, ⟨hpz, .inr rfl, by simp only [len_slc, List.length_cons, List.length_nil]; omega, by simp only [len_slc, List.length_cons, List.length_nil]; omega⟩, ?_⟩
      have hr := rows_app (rows_of hp) (wt_one (hb.getInt z 0) (hb.getInt z 1) c2)
      obtain ⟨i1, i2⟩ := is_of (h := D.hd (hs 11 0)) (s := 3) rfl hr
      have := ihx (_, x + 1) ⟨hcx, i1, rfl, i2.trans (by
        rw [hpt, pickW_snoc hcx, hzz]
        congr 1
        have : (hb.to Wt).getD (Int.toNat (z : Int)) zWt = (hb.to Wt)[z] := by simp [hzb]
        rw [this, c3])⟩ (by simp only; omega)
      simp only at this
      rw [← wrap_succ hcx (by omega)] at this
      exact this
    · have : x = (a.to Int).length := by have := of_decide_eq_false hcx; omega
      subst this
      rw [List.take_length] at hpt
      obtain ⟨x1, x2⟩ := rest_result (w := w) (H := H) hR hra hla h0 h2 h3 hp (by omega) hpt hq (by omega) hto
      exact ⟨x1, x2⟩
end Go.Proofs.Ytdiekahpofifeaa
end
section
open Go Go.Proofs Sx
namespace Go.Proofs.Ytdiekahpofifeaa
set_option maxRecDepth 100000
set_option maxHeartbeats 0
noncomputable def ctAp : Ctrs := [(76, ctrOf (rdD.one.sp spChkI)), (78, ctrOf ((rdD.two rdWt).sp spFits1))]
section
variable (im l : D)

end
end Go.Proofs.Ytdiekahpofifeaa
end
section
open Go Go.Proofs Sx
namespace Go.Proofs.Ytdiekahpofifeaa
set_option maxRecDepth 100000
set_option maxHeartbeats 0
noncomputable def mcL (d : D) (o : SV) (j : Int) : Conf := Conf.mk (SFrm.mk 86 none none [Item.inLoop (cAt Try.prog 86 [1, 1, 0, 1, 0, 0]), Item.inBlock 0, Item.code (cAt Try.prog 86 [1, 1, 1])] (mkJ 0 [(1, .fn 67 [] []), (5, o), (11, .dat d), (12, .int .i64 (d.len : Int)), (13, .int .i64 j)] 0 25)) [] []
section
variable (im : D) (j : Int) (o : Value)
theorem mc_in : goM Try.prog [] [] [(86, MidK.build)] 300 (unroll (mcL im (.raw o) j)) =
 Tree.br (decide (j < (↑(D.len im) : Int)))
 (.need (0 ≤ j ∧ j < (↑(D.len im) : Int) ∧ D.sz im = 1)
 (.need (D.HasCell im (Int.toNat j) 0 FT.slc)
 (.br
 (nilOf
 (evS
 (putS
 [.dat (D.cell im (Int.toNat j) 0), SV.undef, .nils, SV.undef, SV.undef, SV.undef, SV.undef, SV.undef]
 (some 3)
 (evS
 [.dat (D.cell im (Int.toNat j) 0), SV.undef, .nils, SV.undef, SV.undef, SV.undef, SV.undef,
 SV.undef]
 (Operand.tmp 0)))
 (Operand.tmp 3))
 (D.cell im (Int.toNat j) 0))
 (.leaf
 (Conf.mk
 (SFrm.mk 86 (some (opsAt Try.prog 86 [1, 1, 0, 1, 0, 0, 1, 1, 0, 0, 1], [4, 5, 6])) none
 [Item.inBlock 1, Item.code (cAt Try.prog 86 [1, 1, 0, 1, 0, 0, 1, 1, 1]),
 Item.inLoop (cAt Try.prog 86 [1, 1, 0, 1, 0, 0]), Item.inBlock 0, Item.code (cAt Try.prog 86 [1, 1, 1])]
 (mkJ 0
 [(1, SV.fn 67 [] []), (5, SV.raw o), (7, .dat (D.cell im (Int.toNat j) 0)), (11, .dat im),
 (12, .int .i64 (↑(D.len im) : Int)), (13, .int .i64 j),
 (14, .bool (decide (j < (↑(D.len im) : Int)))), (15, SV.elt im (Int.toNat j) 0),
 (16, .dat (D.cell im (Int.toNat j) 0)), (17, SV.raw o), (18, SV.fn 67 [] []),
 (19, .dat (D.cell im (Int.toNat j) 0)), (20, .nils)]
 0 25))
 [] []))
 (.all fun hs =>
 .need
 (D.sz (D.slc (D.hd (hs 0 0)) 8 []) = 8 ∧
 D.Fits (D.cell im (Int.toNat j) 0) 8 ∧
 (D.len (D.slc (D.hd (hs 0 0)) 8 []) + D.len (D.cell im (Int.toNat j) 0)) * 8 ≤ 140737488355328 ∧
 D.len (D.slc (D.hd (hs 0 0)) 8 []) + D.len (D.cell im (Int.toNat j) 0) ≤ 9223372036854775807)
 (.all fun hs_1 =>
 .leaf
 (Conf.mk
 (SFrm.mk 86 (some (opsAt Try.prog 86 [1, 1, 0, 1, 0, 0, 1, 1, 0, 0, 1], [4, 5, 6])) none
 [Item.inBlock 1, Item.code (cAt Try.prog 86 [1, 1, 0, 1, 0, 0, 1, 1, 1]),
 Item.inLoop (cAt Try.prog 86 [1, 1, 0, 1, 0, 0]), Item.inBlock 0,
 Item.code (cAt Try.prog 86 [1, 1, 1])]
 (mkJ 0
 [(1, SV.fn 67 [] []), (5, SV.raw o), (7, .dat (D.cell im (Int.toNat j) 0)), (11, .dat im),
 (12, .int .i64 (↑(D.len im) : Int)), (13, .int .i64 j),
 (14, .bool (decide (j < (↑(D.len im) : Int)))), (15, SV.elt im (Int.toNat j) 0),
 (16, .dat (D.cell im (Int.toNat j) 0)), (17, SV.raw o), (18, SV.fn 67 [] []),
 (19, .dat (D.cell im (Int.toNat j) 0)), (20, .vec 2007)]
 0 25))
 []
 [(2007,
 OBlk.arr 105
 (D.slc (D.hd (hs_1 0 0)) 8
 (List.append (D.rows (D.slc (D.hd (hs 0 0)) 8 []))
 (D.rows (D.cell im (Int.toNat j) 0)))))]))))))
 (.ret (SV.raw o)) := by kernel_rfl



end
end Go.Proofs.Ytdiekahpofifeaa
end
section
open Go Go.Proofs Sx
namespace Go.Proofs.Ytdiekahpofifeaa
set_option maxRecDepth 100000
set_option maxHeartbeats 0
noncomputable def apL (o l : D) (j : Int) : Conf := Conf.mk (SFrm.mk 59 none none [Item.inLoop (cAt Try.prog 59 [1, 1, 1, 0, 1, 0, 0]), Item.inBlock 0, Item.code (cAt Try.prog 59 [1, 1, 1, 1])] (mkJ 0 [(8, .dat o), (19, .dat l), (20, .int .i64 (l.len : Int)), (21, .int .i64 j)] 0 46)) [] []
section
variable (o l im : D) (j : Int)
theorem apl_go : 
 let z1 := (WtD.mk (D.getInt l (Int.toNat j) 0) (D.getInt l (Int.toNat j) 1) (D.cell l (Int.toNat j) 2))
 let z2 : List SV := [.int .i64 (D.getInt l (Int.toNat j) 0), .int .i64 (D.getInt l (Int.toNat j) 1), .dat (D.cell l (Int.toNat j) 2)]
 let z3 := (D.len (D.cell o (Int.toNat (D.getInt l (Int.toNat j) 0)) 0))
 goM Try.prog ctAp [] [(59, MidK.copy)] 300 (unroll (apL o l j)) =
 Tree.br (decide (j < (↑(D.len l) : Int))) (.need (0 ≤ j ∧ j < (↑(D.len l) : Int) ∧ D.sz l = 3) (.need (D.HasCells l (Int.toNat j) 0 [FT.int .i64, FT.int .i64, FT.slc]) (.need (ImgOk o ∧ WtD.Ok z1) (.br
 (fitsErr (volSizes (D.to Vol o)) (WtD.wt z1) != 0) (.ret (SV.tup [.nils, .int .i64 j, .int .i64 (fitsErr (volSizes (D.to Vol o)) (WtD.wt z1))])) (.all fun hs => .need (0 ≤ D.getInt l (Int.toNat j) 0 ∧ D.getInt l
 (Int.toNat j) 0 < (↑(D.len o) : Int) ∧ D.sz o = 1) (.need (D.HasCell o (Int.toNat (D.getInt l (Int.toNat j) 0)) 0 FT.slc) (.need (0 ≤ D.getInt l (Int.toNat j) 1 ∧ D.getInt l (Int.toNat j) 1 ≤ (↑z3 : Int) ∧
 (↑z3 : Int) ≤ (↑z3 : Int) ∧ D.Fits (D.cell o (Int.toNat (D.getInt l (Int.toNat j) 0)) 0) 8) (.leaf (Conf.mk (SFrm.mk 59 (some (opsAt Try.prog 59 [1, 1, 1, 0, 1, 0, 0, 1, 1, 0, 0, 1, 1], [10])) none [Item.inBlock 1, Item.code
 (cAt Try.prog 59 [1, 1, 1, 0, 1, 0, 0, 1, 1, 1]), Item.inLoop (cAt Try.prog 59 [1, 1, 1, 0, 1, 0, 0]), Item.inBlock 0, Item.code (cAt Try.prog 59 [1, 1, 1, 1])] (mkJ 0 [(8, .dat o), (9, .int .i64 j), (10, .ptr 1010 0),
 (11, .int .i64 (fitsErr (volSizes (D.to Vol o)) (WtD.wt z1))), (19, .dat l), (20, .int .i64 (↑(D.len l) : Int)), (21, .int .i64 j), (22, .bool (decide (j < (↑(D.len l) : Int)))), (23, .int .i64 j), (24, SV.elt l
 (Int.toNat j) 0), (25, .agg z2), (26, .dat o), (27, .agg z2), (28, .int .i64 (fitsErr (volSizes (D.to Vol o)) (WtD.wt z1))), (29, .int .i64 (fitsErr (volSizes (D.to Vol o)) (WtD.wt z1))), (30, .bool (fitsErr
 (volSizes (D.to Vol o)) (WtD.wt z1) != 0)), (33, .dat o), (34, .ptr 1010 0), (35, .int .i64 (D.getInt l (Int.toNat j) 0)), (36, SV.elt o (Int.toNat (D.getInt l (Int.toNat j) 0)) 0), (37, .dat (D.cell o
 (Int.toNat (D.getInt l (Int.toNat j) 0)) 0)), (38, .ptr 1010 1), (39, .int .i64 (D.getInt l (Int.toNat j) 1)), (40, .dat (D.sub (D.cell o (Int.toNat (D.getInt l (Int.toNat j) 0)) 0) (Int.toNat (D.getInt l
 (Int.toNat j) 1)) (Int.toNat (↑z3 : Int)))), (41, .ptr 1010 2), (42, .dat (D.cell l (Int.toNat j) 2))] 0 46)) [] [(1010, OBlk.cells 55 z2)]))))))))) (.ret (SV.tup [.dat o, .int .i64 0, .int .i64 0])) := by
 intros; kernel_rfl

theorem apc_in : goM Try.prog ctAp [(77, 0), (77, 1), (77, 2), (77, 3)] [] 300 (entry Try.prog 59 [.dat im, .dat l]) =
 Tree.need (D.Is Vol im ∧ D.len im ≤ 1048576)
 (.br (sizesErr (volSizes (D.to Vol im)) != 0)
 (.ret (SV.tup [.nils, .int .i64 0, .int .i64 (sizesErr (volSizes (D.to Vol im)))]))
 (.leaf
 (Conf.mk
 (SFrm.mk 77 none none [Item.code (cAt Try.prog 77 [0]), Item.code (cAt Try.prog 77 [1])]
 (mkJ 1 [(0, .dat im)] 0 5))
 [SFrm.mk 59 (some (opsAt Try.prog 59 [1, 1, 0], [2])) (some 18) [Item.code (cAt Try.prog 59 [1, 1, 1])]
 (mkJ 0 [(1, .dat l)] 0 46)]
 []))) := by kernel_rfl

end
end Go.Proofs.Ytdiekahpofifeaa
end
section
open Go Go.Proofs Sx
namespace Go.Proofs.Ytdiekahpofifeaa
set_option maxRecDepth 100000
set_option maxHeartbeats 0
noncomputable def mcB (im d : D) (o : SV) (j : Int) : Conf := Conf.mk (SFrm.mk 86 (some (opsAt Try.prog 86 [1, 1, 0, 1, 0, 0, 1, 1, 0, 0, 1], [4, 5, 6])) none [Item.inBlock 1, Item.code (cAt Try.prog 86 [1, 1, 0, 1, 0, 0, 1, 1, 1]), Item.inLoop (cAt Try.prog 86 [1, 1, 0, 1, 0, 0]), Item.inBlock 0, Item.code (cAt Try.prog 86 [1, 1, 1])] (mkJ 0 [(1, SV.fn 67 [] []), (11, .dat im), (12, .int .i64 (im.len : Int)), (13, .int .i64 j), (17, o), (20, .dat d)] 0 25)) [] []
section
variable (im d : D) (j : Int) (o : Value)
theorem mcb_go : goM Try.prog [] [] [(86, MidK.append)] 300 (mcB im d (.raw o) j) =
 Tree.all fun hs =>
 .leaf
 (Conf.mk
 (SFrm.mk 86 (some (opsAt Try.prog 86 [1, 1, 0, 1, 0, 0, 1, 1, 0, 0, 1], [5, 6])) none
 [Item.inBlock 1, Item.code (cAt Try.prog 86 [1, 1, 0, 1, 0, 0, 1, 1, 1]),
 Item.inLoop (cAt Try.prog 86 [1, 1, 0, 1, 0, 0]), Item.inBlock 0, Item.code (cAt Try.prog 86 [1, 1, 1])]
 (mkJ 0
 [(1, SV.fn 67 [] []), (11, .dat im), (12, .int .i64 (↑(D.len im) : Int)),
 (13, .int .i64 j), (17, SV.raw o), (20, .dat d), (21, .vec 1021)]
 0 25))
 [] [(1021, OBlk.arr 53 (D.slc (D.hd (hs 0 0)) 1 [[d]]))]) := by kernel_rfl

end
end Go.Proofs.Ytdiekahpofifeaa
end
section
open Go Go.Proofs Sx
namespace Go.Proofs.Ytdiekahpofifeaa
set_option maxRecDepth 100000
set_option maxHeartbeats 0
noncomputable def mcC (im : D) (o : SV) (j : Int) : Conf := Conf.mk (SFrm.mk 86 (some (opsAt Try.prog 86 [1, 1, 0, 1, 0, 0, 1, 1, 0, 0, 1], [6])) none [Item.inBlock 1, Item.code (cAt Try.prog 86 [1, 1, 0, 1, 0, 0, 1, 1, 1]), Item.inLoop (cAt Try.prog 86 [1, 1, 0, 1, 0, 0]), Item.inBlock 0, Item.code (cAt Try.prog 86 [1, 1, 1])] (mkJ 0 [(1, SV.fn 67 [] []), (11, .dat im), (12, .int .i64 (im.len : Int)), (13, .int .i64 j), (22, o)] 0 25)) [] []
noncomputable def rcL (d : D) (o : SV) (j : Int) : Conf := Conf.mk (SFrm.mk 80 none none [Item.inLoop (cAt Try.prog 80 [1, 1, 0, 1, 0, 0]), Item.inBlock 0, Item.code (cAt Try.prog 80 [1, 1, 1])] (mkJ 0 [(0, .dat d), (3, o), (4, .int .i64 j)] 0 22)) [] []
section
variable (im d : D) (j : Int) (o : Value)
theorem mcc_go : goM Try.prog [] [] [] 300 (mcC im (.raw o) j) =
 Tree.leaf
 (Conf.mk
 (SFrm.mk 86 none none
 [Item.inLoop (cAt Try.prog 86 [1, 1, 0, 1, 0, 0]), Item.inBlock 0, Item.code (cAt Try.prog 86 [1, 1, 1])]
 (mkJ 0
 [(1, SV.fn 67 [] []), (5, SV.raw o), (11, .dat im), (12, .int .i64 (↑(D.len im) : Int)),
 (13, .int .i64 (IntKind.wrap .i64 (j + 1)))]
 0 25))
 [] []) := by kernel_rfl

theorem rc_in : goM Try.prog [] [] [(80, MidK.build)] 300 (unroll (rcL im (.raw o) j)) =
 Tree.br (decide (j < (↑(D.len im) : Int)))
 (.need (0 ≤ j ∧ j < (↑(D.len im) : Int) ∧ D.sz im = 1)
 (.need (D.HasCell im (Int.toNat j) 0 FT.slc)
 (.need
 (D.Fits (D.cell im (Int.toNat j) 0) 8 ∧
 D.len (D.cell im (Int.toNat j) 0) * 8 ≤ 140737488355328 ∧
 D.len (D.cell im (Int.toNat j) 0) ≤ 9223372036854775807)
 (.all fun hs =>
 .leaf
 (Conf.mk
 (SFrm.mk 80 (some (opsAt Try.prog 80 [1, 1, 0, 1, 0, 0, 1, 0, 0, 1], [7, 8, 9])) none
 [Item.inBlock 1, Item.code (cAt Try.prog 80 [1, 1, 0, 1, 0, 0, 1, 1]),
 Item.inLoop (cAt Try.prog 80 [1, 1, 0, 1, 0, 0]), Item.inBlock 0,
 Item.code (cAt Try.prog 80 [1, 1, 1])]
 (mkJ 0
 [(0, .dat im), (3, SV.raw o), (4, .int .i64 j), (5, .nils), (6, .int .i64 j),
 (7, .dat im), (8, .int .i64 (↑(D.len im) : Int)),
 (9, .bool (decide (j < (↑(D.len im) : Int)))), (12, SV.raw o), (13, .nils), (14, .dat im),
 (15, .int .i64 j), (16, SV.elt im (Int.toNat j) 0),
 (17, .dat (D.cell im (Int.toNat j) 0)), (18, .vec 1018)]
 0 22))
 [] [(1018, OBlk.arr 105 (D.slc (D.hd (hs 0 0)) 8 (D.rows (D.cell im (Int.toNat j) 0))))])))))
 (.ret (SV.raw o)) := by kernel_rfl

end
end Go.Proofs.Ytdiekahpofifeaa
end
section
open Go
namespace Sx
theorem law_tab2 {P : Program} {f : FuncId} {β : Type} {r : Rd β} {sp : β → SpecR} {γ : Type} [DecidableEq γ] (h : Law P f (r.sp sp)) (c : β → Bool) (v : β → γ) (tab : List γ) (k : β → γ → SpecR)
    (hh : ∀ b, c b = true → match k b (v b) with
      | .no => True
      | .data ps' g' => ∃ ps g, sp b = .data ps g ∧ ((∀ p, p ∈ ps' → p) → ∀ p, p ∈ ps → p) ∧ ∀ ds, ∃ ds', g' ds' = g ds
      | .scalar ps' v' => ∃ ps v, sp b = .scalar ps v ∧ ((∀ p, p ∈ ps' → p) → ∀ p, p ∈ ps → p) ∧ v' = v) :
    Law P f (r.sp fun b => iff (c b) (tabD (v b) tab (k b))) :=
  law_alt h fun b => by
    unfold iff
    cases hc : c b with
    | false => trivial
    | true =>
      simp only
      rcases tabD_or (v b) (k b) tab with h1 | h1
      · rw [h1]; trivial
      · rw [h1]; exact hh b hc
def evRows : List (List D) → Bool
  | [] => true
  | r :: rs => match r with
    | [.int .i64 _, .int .i64 _] => evRows rs
    | _ => false
def D.allEv (d : D) : Bool :=
  match d with
  | .slc _ s rows => (match rows with | [] => true | _ :: _ => s == 2) && evRows rows
  | _ => false
def secRows : List (List D) → Bool
  | [] => true
  | r :: rs => match r with
    | [.int .u8 _, .int .u8 _, .int .u8 _, .int .u8 _, .int .u8 _, .int .u8 _, .int .u8 _, .int .u8 _] => secRows rs
    | _ => false
def D.allSec (d : D) : Bool :=
  match d with
  | .slc _ s rows => (match rows with | [] => true | _ :: _ => s == 8) && secRows rows
  | _ => false
def wtRows : List (List D) → Bool
  | [] => true
  | r :: rs => match r with
    | [.int .i64 _, .int .i64 _, d] => d.allSec && wtRows rs
    | _ => false
def D.allWt (d : D) : Bool :=
  match d with
  | .slc _ s rows => (match rows with | [] => true | _ :: _ => s == 3) && wtRows rows
  | _ => false
theorem evRows_ok : ∀ (rows : List (List D)), evRows rows = true → ∀ r, r ∈ rows → Codec.ok Ev r
  | [], _, r, h => by cases h
  | x :: rs, h, r, hr => by
    unfold evRows at h
    split at h
    · rcases List.mem_cons.1 hr with rfl | hr
      · exact ⟨_, _, rfl⟩
      · exact evRows_ok rs h r hr
    · cases h
theorem secRows_ok : ∀ (rows : List (List D)), secRows rows = true → ∀ r, r ∈ rows → Codec.ok Sec r
  | [], _, r, h => by cases h
  | x :: rs, h, r, hr => by
    unfold secRows at h
    split at h
    · rcases List.mem_cons.1 hr with rfl | hr
      · exact ⟨_, _, _, _, _, _, _, _, rfl⟩
      · exact secRows_ok rs h r hr
    · cases h
theorem allSec_is {d : D} (h : d.allSec = true) : d.Is Sec := by
  unfold D.allSec at h
  split at h
  · rename_i a s rows
    simp only [Bool.and_eq_true] at h
    refine ⟨_, _, _, rfl, ?_, secRows_ok _ h.2⟩
    cases rows with
    | nil => exact .inl rfl
    | cons x r => right; exact eq_of_beq h.1
  · cases h
theorem wtRows_ok : ∀ (rows : List (List D)), wtRows rows = true → ∀ r, r ∈ rows → Codec.ok Wt r
  | [], _, r, h => by cases h
  | x :: rs, h, r, hr => by
    unfold wtRows at h
    split at h
    · simp only [Bool.and_eq_true] at h
      rcases List.mem_cons.1 hr with rfl | hr
      · exact ⟨_, _, _, rfl, allSec_is h.1⟩
      · exact wtRows_ok rs h.2 r hr
    · cases h
theorem allEv_is {d : D} (h : d.allEv = true) : d.Is Ev := by
  unfold D.allEv at h
  split at h
  · rename_i a s rows
    simp only [Bool.and_eq_true] at h
    refine ⟨_, _, _, rfl, ?_, evRows_ok _ h.2⟩
    cases rows with
    | nil => exact .inl rfl
    | cons x r => right; exact eq_of_beq h.1
  · cases h
theorem allWt_is {d : D} (h : d.allWt = true) : d.Is Wt := by
  unfold D.allWt at h
  split at h
  · rename_i a s rows
    simp only [Bool.and_eq_true] at h
    refine ⟨_, _, _, rfl, ?_, wtRows_ok _ h.2⟩
    cases rows with
    | nil => exact .inl rfl
    | cons x r => right; exact eq_of_beq h.1
  · cases h
def hiL (x : HiD) : Bool := x.s.allInt && (x.w.allWt && (x.e.allEv && (decide (x.s.len ≤ 1048576) && (decide (x.w.len ≤ 1048576) && (decide (x.e.len ≤ 1048576) && (x.w.to Wt).all fun w => decide (w.data.length ≤ 1048576))))))
theorem hiL_is {x : HiD} (h : hiL x = true) : x.Right := by
  simp only [hiL, Bool.and_eq_true, decide_eq_true_eq, List.all_eq_true] at h
  exact ⟨allInt_is h.1, allWt_is h.2.1, allEv_is h.2.2.1, h.2.2.2.1, h.2.2.2.2.1, h.2.2.2.2.2.1, h.2.2.2.2.2.2⟩
def setL (x : D) : Bool := x.allInt && decide (x.len ≤ 1048576)
theorem setL_is {x : D} (h : setL x = true) : x.Is Int ∧ x.len ≤ 1048576 := by
  simp only [setL, Bool.and_eq_true, decide_eq_true_eq] at h
  exact ⟨allInt_is h.1, h.2⟩
def spCkT (x : HiD) : SpecR := iff (hiL x) (tabD (checkH x.hist).1 [0] fun e => .scalar [] (.int .i64 e))
def spBefTT (x : HiD × Int × Int) : SpecR := iff (hiL x.1) (tabD (beforeH x.1.hist x.2.1 x.2.2) [true, false] fun b => .scalar [] (.bool b))
def spClsT (x : HiD × D) : SpecR := iff (hiL x.1 && setL x.2) (tabD (closedB x.1.hist (x.2.to Int)) [true, false] fun b => .scalar [] (.bool b))
noncomputable def spRestT (x : HiD × D) : SpecR := iff (hiL x.1 && setL x.2) (tabD (restrictH x.1.hist (x.2.to Int)).2 [0, 27] fun e => .data [] fun ds => .tup [hiSV ds (restrictH x.1.hist (x.2.to Int)).1, .int .i64 e])
noncomputable def spAcdT (x : HiD × Int) : SpecR := iff (hiL x.1) (tabD () [()] fun _ => .data [] fun ds => .dat ((ds 0).like (ackedH x.1.hist x.2)))
def spIntsS (x : D × D) : SpecR := .scalar [x.1.Is Int ∧ x.2.Is Int ∧ x.1.len ≤ 1048576 ∧ x.1.to Int = x.2.to Int] (.lb true)
def spEvsS (x : D × D) : SpecR := .scalar [x.1.Is Ev ∧ x.2.Is Ev ∧ x.1.len ≤ 1048576 ∧ x.1.to Ev = x.2.to Ev] (.lb true)
def spHasC (x : D × Int) : SpecR := .scalar [x.1.Is Int ∧ x.1.len ≤ 1048576] (.bool ((x.1.to Int).contains x.2))
end Sx
end
section
open Go
namespace Sx
instance : Plain Sec where
  cells _ _ s := [.int .u8 s.b0, .int .u8 s.b1, .int .u8 s.b2, .int .u8 s.b3, .int .u8 s.b4, .int .u8 s.b5, .int .u8 s.b6, .int .u8 s.b7]
  right d i r _ h := by obtain ⟨_, _, _, _, _, _, _, _, rfl⟩ := h; rfl
instance : Plain Ev where
  cells _ _ e := [.int .i64 e.kind, .int .i64 e.write]
  right d i r _ h := by obtain ⟨_, _, rfl⟩ := h; rfl
instance : Plain Wt where
  cells d i w := [.int .i64 w.vol, .int .i64 w.start, (d.cell i 2).plain w.data]
  right d i r h ho := by
    obtain ⟨a, b, v, rfl, hv⟩ := ho
    obtain ⟨p1, p2, p3, rfl⟩ := hv.slc
    have e1 : d.cell i 2 = .slc p1 p2 p3 := by simp [D.cell, D.cellAt, h]
    simp only [Codec.dec, e1, plain_self hv]
def pI (d : D) (l : List Int) : D := d.plain l
def pS (d : D) (l : List Sec) : D := d.plain l
noncomputable def pW (d : D) (l : List Wt) : D := d.plain l
def pE (d : D) (l : List Ev) : D := d.plain l
theorem pI_self {d : D} (h : d.Is Int) {l : List Int} (e : d.to Int = l) : pI d l = d := by subst e; exact plain_self h
theorem pS_self {d : D} (h : d.Is Sec) {l : List Sec} (e : d.to Sec = l) : pS d l = d := by subst e; exact plain_self h
theorem pW_self {d : D} (h : d.Is Wt) {l : List Wt} (e : d.to Wt = l) : pW d l = d := by subst e; exact plain_self h
theorem pE_self {d : D} (h : d.Is Ev) {l : List Ev} (e : d.to Ev = l) : pE d l = d := by subst e; exact plain_self h
def oneS : Sec := ⟨1, 0, 0, 0, 0, 0, 0, 0⟩
noncomputable def spEx1 (n : Int) : SpecR := .data [] fun ds => .agg [.int .i64 0, .int .i64 n, .dat (pS (ds 0) [oneS])]
noncomputable def exSV (ds : Nat → D) : SV := .agg [.dat (pI (ds 0) [4]), .dat (pW (ds 1) [⟨0, 0, [oneS]⟩, ⟨0, 1, [oneS]⟩, ⟨0, 2, [oneS]⟩]), .dat (pE (ds 2) [⟨0, 0⟩, ⟨0, 1⟩, ⟨1, 0⟩, ⟨0, 2⟩])]
noncomputable def spEx (_ : Unit) : SpecR := .data [] exSV
def spSameHS (x : HiD × HiD) : SpecR := .scalar [x.1.Right ∧ x.2.s.Is Int ∧ x.2.w.Is Wt ∧ x.2.e.Is Ev ∧ x.1.hist = x.2.hist] (.lb true)
end Sx
end
section
open Go
namespace Sx
def rdPair : Rd1 (Int × Int) where
  read x := match x with | .agg [.int .i64 a, .int .i64 b] => some (a, b) | _ => none
  canon n := .agg [.int .i64 n.1, .int .i64 n.2]
  right H E x b h hok := by
    split at h
    · cases h; exact ⟨rfl, trivial, trivial, trivial⟩
    · cases h
theorem few_right {x : HiD} (h1 : x.s.Is Int) (h2 : x.w.Is Wt) (h3 : x.e.Is Ev) (h : fewH x.hist = true) : x.Right ∧ x.e.len ≤ 1000000 := by
  simp only [fewH, Bool.and_eq_true, decide_eq_true_eq, List.all_eq_true] at h
  obtain ⟨a, b, c, d, e⟩ := h
  have a : (x.s.to Int).length ≤ 9 := a
  have b : (x.w.to Wt).length ≤ 40 := b
  have c : (x.e.to Ev).length ≤ 90 := c
  have e : ∀ w, w ∈ x.w.to Wt → w.data.length ≤ 30 := e
  have l1 := D.Is.length (α := Int) x.s
  have l2 := D.Is.length (α := Wt) x.w
  have l3 := D.Is.length (α := Ev) x.e
  exact ⟨⟨h1, h2, h3, by omega, by omega, by omega, fun w hw => by have := e w hw; omega⟩, by omega⟩
def HistOk (h : Hist) : Prop := h.sizes.length ≤ 1048576 ∧ h.writes.length ≤ 1048576 ∧ h.events.length ≤ 1048576 ∧ ∀ w, w ∈ h.writes → w.data.length ≤ 1048576
theorem llen {α : Type} [Codec α] (d : D) (l : List α) : (d.like l).len = l.length := by rw [D.Is.length (α := α), D.like_to]
theorem like_right {h : Hist} {a b c : D} (hk : HistOk h) : (HiD.mk (a.like h.sizes) (b.like h.writes) (c.like h.events)).Right :=
  ⟨D.like_is _ _, D.like_is _ _, D.like_is _ _, by simp only [llen]; exact hk.1, by simp only [llen]; exact hk.2.1, by simp only [llen]; exact hk.2.2.1, by simp only [D.like_to]; exact hk.2.2.2⟩
theorem like_hist {h : Hist} {a b c : D} : (HiD.mk (a.like h.sizes) (b.like h.writes) (c.like h.events)).hist = h := by simp only [HiD.hist, D.like_to]
theorem same_need {h : Hist} {a b c a' b' c' : D} (hk : HistOk h) : (HiD.mk (a.like h.sizes) (b.like h.writes) (c.like h.events)).Right ∧ (a'.like h.sizes).Is Int ∧ (b'.like h.writes).Is Wt ∧ (c'.like h.events).Is Ev ∧
    (HiD.mk (a.like h.sizes) (b.like h.writes) (c.like h.events)).hist = (HiD.mk (a'.like h.sizes) (b'.like h.writes) (c'.like h.events)).hist :=
  ⟨like_right hk, D.like_is _ _, D.like_is _ _, D.like_is _ _, by rw [like_hist, like_hist]⟩
end Sx
end
section
open Go
namespace Sx
def stepE (ws : List Wt) (st : Hist × Nat) (e : Ev) : Hist × Nat :=
  if e.kind = 1 then (if (ackH st.1 e.write).2 = 0 then (ackH st.1 e.write).1 else st.1, st.2)
  else if st.2 < ws.length then (if (issueH st.1 (ws.getD st.2 zWt)).2.2 = 0 then (issueH st.1 (ws.getD st.2 zWt)).1 else st.1, st.2 + 1) else st
def runE (ws : List Wt) (h0 : Hist) (evs : List Ev) (j : Nat) : Hist × Nat := (evs.take j).foldl (stepE ws) (h0, 0)
theorem runE_succ {ws : List Wt} {h0 : Hist} {evs : List Ev} {j : Nat} (hj : j < evs.length) : runE ws h0 evs (j + 1) = stepE ws (runE ws h0 evs j) evs[j] := by
  unfold runE
  rw [List.take_succ_eq_append_getElem hj, List.foldl_append]; rfl
def replayH (s : List Int) (ws : List Wt) (evs : List Ev) : Hist × Bool :=
  if (newH s).2 ≠ 0 then ((newH s).1, false) else ((runE ws (newH s).1 evs evs.length).1, true)
def HB (m j : Nat) (st : Hist × Nat) : Prop := st.1.sizes.length ≤ m ∧ st.1.writes.length ≤ j ∧ st.1.events.length ≤ j ∧ (∀ w, w ∈ st.1.writes → w.data.length ≤ 1048576) ∧ st.2 ≤ j
noncomputable def repSV (ds : Nat → D) (r : Hist × Bool) : SV := .tup [hiSV ds r.1, .bool r.2]
noncomputable def spReplay (x : D × D × D) : SpecR := .data [x.1.Is Int ∧ x.1.len ≤ 1000000 ∧ x.2.1.Is Wt ∧ (∀ w, w ∈ x.2.1.to Wt → w.data.length ≤ 1048576) ∧ x.2.1.len ≤ 1000000 ∧ x.2.2.Is Ev ∧ x.2.2.len ≤ 1000000]
  fun ds => repSV ds (replayH (x.1.to Int) (x.2.1.to Wt) (x.2.2.to Ev))
def stepsH (h : Hist) : Hist × Bool := if fewH h = true then replayH h.sizes h.writes h.events else (zHist, false)
noncomputable def spSteps (x : HiD) : SpecR := .data [x.s.Is Int ∧ x.w.Is Wt ∧ x.e.Is Ev] fun ds => repSV ds (stepsH x.hist)
end Sx
end
section
open Go
namespace Sx
structure TlOrd (i : Int) (t : Tl) : Prop where
  lt : ∀ w : Nat, w < t.issued.length → t.issued.getD w 0 < i
  inc : ∀ a b : Nat, a < b → b < t.issued.length → t.issued.getD a 0 < t.issued.getD b 0
  aft : ∀ w : Nat, w < t.issued.length → 0 ≤ t.acked.getD w 0 → t.issued.getD w 0 < t.acked.getD w 0
  len : t.acked.length = t.issued.length
theorem getD_app1 {l : List Int} {x : Int} {w : Nat} (h : w < l.length) : (l ++ [x]).getD w 0 = l.getD w 0 := by
  simp [List.getElem?_append_left h]
theorem getD_app2' {l : List Int} {x : Int} {w : Nat} (h : w = l.length) : (l ++ [x]).getD w 0 = x := by subst h; simp
theorem getD_set1 {l : List Int} {x : Int} {k w : Nat} (h : k ≠ w) : (l.set k x).getD w 0 = l.getD w 0 := by
  simp [h]
theorem getD_set2 {l : List Int} {x : Int} {k : Nat} (h : k < l.length) : (l.set k x).getD k 0 = x := by simp [h]
theorem evStep_ord {n : Nat} {i : Int} {t : Tl} {e : Ev} (hi : 0 ≤ i) (h : TlOrd i t) (h0 : (evStep n i t e).1 = 0) : TlOrd (i + 1) (evStep n i t e).2 := by
  unfold evStep at h0 ⊢
  split at h0
  · rename_i hk
    rw [if_pos hk]
    split at h0
    · exact absurd h0 (by simp)
    · rename_i hc
      rw [if_neg hc]
      refine ⟨fun w hw => ?_, fun a b hab hb => ?_, fun w hw ha => ?_, by simp [h.len]⟩
      · simp only [List.length_append, List.length_singleton] at hw ⊢
        by_cases e : w < t.issued.length
        · rw [getD_app1 e]; have := h.lt w e; omega
        · rw [getD_app2' (by omega)]; omega
      · simp only [List.length_append, List.length_singleton] at hb ⊢
        by_cases e : b < t.issued.length
        · rw [getD_app1 e, getD_app1 (by omega)]; exact h.inc a b hab e
        · rw [getD_app2' (w := b) (by omega), getD_app1 (by omega)]; exact h.lt a (by omega)
      · simp only [List.length_append, List.length_singleton] at hw ha ⊢
        by_cases e : w < t.issued.length
        · have e' : w < t.acked.length := by rw [h.len]; exact e
          rw [getD_app1 (l := t.acked) e'] at ha ⊢
          rw [getD_app1 (l := t.issued) e]; exact h.aft w e ha
        · rw [getD_app2' (by rw [h.len]; omega)] at ha; omega
  · rename_i hk
    rw [if_neg hk]
    split at h0
    · rename_i hk1
      rw [if_pos hk1]
      split at h0
      · exact absurd h0 (by simp)
      · rename_i hc
        rw [if_neg hc]
        split at h0
        · exact absurd h0 (by simp)
        · rename_i hd
          rw [if_neg hd]
          refine ⟨fun w hw => ?_, fun a b hab hb => h.inc a b hab hb, fun w hw ha => ?_, by simp [h.len]⟩
          · have := h.lt w hw; simp only; omega
          · simp only at hw ha ⊢
            by_cases e : e.write.toNat = w
            · subst e
              rw [getD_set2 (by rw [h.len]; omega)]
              exact h.lt _ hw
            · rw [getD_set1 e] at ha ⊢
              exact h.aft w hw ha
    · exact absurd h0 (by simp)
theorem runEv_ord {n : Nat} {l : List Ev} : ∀ j, j ≤ l.length → (runEv n l j).1 = 0 → TlOrd j (runEv n l j).2
  | 0, _, _ => ⟨fun w hw => absurd hw (by simp [runEv]), fun a b _ hb => absurd hb (by simp [runEv]), fun w hw => absurd hw (by simp [runEv]), by simp [runEv]⟩
  | j + 1, hj, h0 => by
    unfold runEv at h0 ⊢
    split at h0
    · rename_i h1; exact absurd h0 h1
    · rename_i h1
      rw [if_neg h1]
      have e : l[j]? = some l[j] := by simp [show j < l.length by omega]
      rw [e] at h0 ⊢
      simp only at h0 ⊢
      have := evStep_ord (n := n) (e := l[j]) (by omega) (runEv_ord j (by omega) (by simpa using h1)) h0
      simpa using this
theorem checkH_run {h : Hist} (hc : (checkH h).1 = 0) : (runEv h.writes.length h.events h.events.length).1 = 0 ∧ (checkH h).2 = (runEv h.writes.length h.events h.events.length).2 := by
  unfold checkH at hc ⊢
  split at hc
  · rename_i h1; exact absurd hc h1
  · rename_i h1
    rw [if_neg h1]
    split at hc
    · exact absurd hc (by simp)
    · rename_i h2
      rw [if_neg h2]
      split at hc
      · rename_i h3; exact absurd hc h3
      · rename_i h3
        rw [if_neg h3]
        split at hc
        · rename_i h4; exact absurd hc h4
        · rename_i h4
          rw [if_neg h4]
          split at hc
          · exact absurd hc (by simp)
          · rename_i h5
            rw [if_neg h5]
            exact ⟨by simpa using h4, rfl⟩
theorem places {h : Hist} (hc : (checkH h).1 = 0) :
    (∀ a b : Int, a < b → 0 ≤ a → b < h.writes.length → atEv h.events ⟨0, a⟩ < atEv h.events ⟨0, b⟩) ∧
    (∀ a : Int, 0 ≤ atEv h.events ⟨1, a⟩ → 0 ≤ a ∧ a < h.writes.length ∧ atEv h.events ⟨0, a⟩ < atEv h.events ⟨1, a⟩) ∧
    ∀ a : Int, 0 ≤ atEv h.events ⟨0, a⟩ ↔ 0 ≤ a ∧ a < h.writes.length := by
  obtain ⟨htl, hlen, _⟩ := checkH_ok hc
  obtain ⟨h0, h2⟩ := checkH_run hc
  have ho := runEv_ord _ (Nat.le_refl _) h0
  rw [← h2] at ho
  have hI : ∀ w : Nat, w < h.writes.length → (checkH h).2.issued.getD w 0 = atEv h.events ⟨0, w⟩ ∧ 0 ≤ atEv h.events ⟨0, w⟩ := fun w hw => by
    have := htl.iss w (by omega)
    rw [← this.1]
    exact ⟨getD_lt (by omega), this.2⟩
  have hA : ∀ w : Nat, w < h.writes.length → (checkH h).2.acked.getD w 0 = atEv h.events ⟨1, w⟩ := fun w hw => by
    rw [← htl.ack w (by have := htl.len; omega)]
    exact getD_lt (by have := htl.len; omega)
  have hout : ∀ a : Int, ¬(0 ≤ a ∧ a < h.writes.length) → atEv h.events ⟨0, a⟩ = -1 ∧ atEv h.events ⟨1, a⟩ = -1 := fun a ha => htl.not a (by omega)
  refine ⟨fun a b hab h1 h2 => ?_, fun a ha => ?_, fun a => ⟨fun ha => ?_, fun ha => ?_⟩⟩
  · obtain ⟨x, rfl⟩ := Int.eq_ofNat_of_zero_le h1
    obtain ⟨y, rfl⟩ := Int.eq_ofNat_of_zero_le (show 0 ≤ b by omega)
    rw [← (hI x (by omega)).1, ← (hI y (by omega)).1]
    exact ho.inc x y (by omega) (by omega)
  · have hr : 0 ≤ a ∧ a < h.writes.length := by
      rcases Classical.em (0 ≤ a ∧ a < h.writes.length) with h | h
      · exact h
      · rw [(hout a h).2] at ha; exact absurd ha (by decide)
    obtain ⟨x, rfl⟩ := Int.eq_ofNat_of_zero_le hr.1
    refine ⟨hr.1, hr.2, ?_⟩
    rw [← hA x (by omega)] at ha ⊢
    rw [← (hI x (by omega)).1]
    exact ho.aft x (by omega) ha
  · rcases Classical.em (0 ≤ a ∧ a < h.writes.length) with h | h
    · exact h
    · rw [(hout a h).1] at ha; exact absurd ha (by decide)
  · obtain ⟨x, rfl⟩ := Int.eq_ofNat_of_zero_le ha.1
    exact (hI x (by omega)).2
end Sx
end
section
open Go
namespace Sx
theorem setUp_of {l : List Int} {n : Int} (h1 : l.Pairwise (· < ·)) (h2 : ∀ x, x ∈ l → 0 ≤ x ∧ x < n) : ∀ m, m ≤ l.length → setUp l n m = true
  | 0, _ => rfl
  | m + 1, hm => by
    have hlt : m < l.length := by omega
    have h3 := h2 _ (List.getElem_mem hlt)
    simp only [setUp, Bool.and_eq_true, Bool.or_eq_true, decide_eq_true_eq]
    rw [getD_lt hlt]
    refine ⟨setUp_of h1 h2 m (by omega), h3.1, h3.2, ?_⟩
    rcases Nat.eq_zero_or_pos m with e | e
    · left; omega
    · right
      rw [getD_lt (show m - 1 < l.length by omega)]
      exact (List.pairwise_iff_getElem.1 h1) (m - 1) m (by omega) hlt (by omega)
def filtN (n : Nat) (p : Int → Bool) : List Int := ((List.range n).map fun (a : Nat) => (a : Int)).filter p
end Sx
end
section
open Go
namespace Sx
structure Gr where
  hist : Hist
  waiting : List Int
  held : List Int
  frozen : Bool
deriving DecidableEq
structure GrD where
  h : HiD
  wt : D
  hd : D
  fz : Bool
def GrD.gr (x : GrD) : Gr := ⟨x.h.hist, x.wt.to Int, x.hd.to Int, x.fz⟩
def GrD.Right (x : GrD) : Prop := x.h.Right ∧ x.wt.Is Int ∧ x.hd.Is Int ∧ x.wt.len ≤ 1048576 ∧ x.hd.len ≤ 1048576

def ackStep (a : List Bool) (x : Ev) : List Bool := if x.kind = 1 then a.set x.write.toNat true else a
def ackd (n : Nat) (l : List Ev) : List Bool := l.foldl ackStep (List.replicate n false)
theorem ackStep_len (a : List Bool) (x : Ev) : (ackStep a x).length = a.length := by
  unfold ackStep; split <;> simp
theorem ackd_len (n : Nat) (l : List Ev) : (ackd n l).length = n := by
  unfold ackd
  have : ∀ (l : List Ev) (a : List Bool), (l.foldl ackStep a).length = a.length := by
    intro l
    induction l with
    | nil => intro a; rfl
    | cons x r ih => intro a; rw [List.foldl_cons, ih, ackStep_len]
  rw [this, List.length_replicate]
def markAll : List Int → List Bool → Option (List Bool)
  | [], s => some s
  | w :: l, s => if w < 0 ∨ w ≥ s.length then none else if s.getD w.toNat false = true then none else markAll l (s.set w.toNat true)
def divided (g : Gr) : Bool := asc g.waiting && match markAll (g.waiting ++ g.held) (ackd g.hist.writes.length g.hist.events) with
  | some s => !s.any fun y => decide (false = y)
  | none => false
def openErr (g : Gr) : Int :=
  if (checkH g.hist).1 ≠ 0 then (checkH g.hist).1
  else if divided g = false then 3
  else if g.held.length > 0 ∧ g.frozen = false then 12 else 0

theorem mark_out {w : Int} {l : List Int} {s : List Bool} (h : w < 0 ∨ w ≥ s.length) : markAll (w :: l) s = none := by
  unfold markAll; rw [if_pos h]
theorem mark_hit {w : Int} {l : List Int} {s : List Bool} (h : s.getD w.toNat false = true) : markAll (w :: l) s = none := by
  unfold markAll; rw [h]; simp
theorem mark_go {w : Int} {l : List Int} {s : List Bool} (h : ¬(w < 0 ∨ w ≥ s.length)) (h2 : s.getD w.toNat false = false) : markAll (w :: l) s = markAll l (s.set w.toNat true) := by
  conv => lhs; unfold markAll
  rw [if_neg h, h2]; simp
theorem set_data {d : D} (hd : d.Is Wt) {i : Nat} (hi : i < (d.to Wt).length) (a : Hd) :
    (d.setCells i 2 [D.slc a 8 (D.rows (d.cell i 2))]).Is Wt ∧ (d.setCells i 2 [D.slc a 8 (D.rows (d.cell i 2))]).to Wt = d.to Wt := by
  obtain ⟨r, h1, ⟨v, s, x, rfl, hx⟩, h3⟩ := hd.row hi
  have e2 : d.cell i 2 = x := by simp [D.cell, D.cellAt, h1]
  have hz := hd.size hi
  have hr := rows_of hd
  have hl' := rows_len hr
  have hgi : d.rows.getD i [] = [.int .i64 v, .int .i64 s, x] := by rw [List.getD_eq_getElem?_getD, h1]; rfl
  have ec : cutIn (d.rows.getD i []) 2 [D.slc a 8 (D.rows (d.cell i 2))] = [.int .i64 v, .int .i64 s, D.slc a 8 x.rows] := by
    rw [hgi, e2]; rfl
  have hxs : (D.slc a 8 x.rows).Is Sec ∧ (D.slc a 8 x.rows).to Sec = x.to Sec := is_of rfl (rows_of hx)
  have hok : Codec.ok Wt [.int .i64 v, .int .i64 s, D.slc a 8 x.rows] := ⟨v, s, _, rfl, hxs.1⟩
  have hdec : (Codec.dec [.int .i64 v, .int .i64 s, D.slc a 8 x.rows] : Wt) = (d.to Wt)[i] := by
    rw [h3]
    show (⟨v, s, (D.slc a 8 x.rows).to Sec⟩ : Wt) = ⟨v, s, x.to Sec⟩
    rw [hxs.2]
  have := is_of (α := Wt) (h := d.hd) (s := d.sz) (rows := d.rows.set i [.int .i64 v, .int .i64 s, D.slc a 8 x.rows]) (xs := d.to Wt) hz ⟨fun r hr' => by
    rcases List.mem_or_eq_of_mem_set hr' with h | h
    · exact hr.1 r h
    · rw [h]; exact hok, by rw [List.map_set, hr.2, hdec, List.set_getElem_self]⟩
  unfold D.setCells
  rw [ec]
  exact this
end Sx
end
section
open Go
namespace Sx
def rdGr : Rd1 GrD where
  read x := match x with
    | .agg [s, w, e, wt, hd, fz] => match rdD.read s, rdD.read w, rdD.read e, rdD.read wt, rdD.read hd, rdBool.read fz with
      | some s, some w, some e, some wt, some hd, some fz => some ⟨⟨s, w, e⟩, wt, hd, fz⟩
      | _, _, _, _, _, _ => none
    | _ => none
  canon g := .agg [.dat g.h.s, .dat g.h.w, .dat g.h.e, .dat g.wt, .dat g.hd, .bool g.fz]
  right H E x b h hok := by
    split at h
    · split at h
      · rename_i h1 h2 h3 h4 h5 h6
        cases h
        obtain ⟨a1, a2, a3, a4, a5, a6, _⟩ := hok
        obtain ⟨i1, i2⟩ := rdD.right H E _ _ h1 a1
        obtain ⟨j1, j2⟩ := rdD.right H E _ _ h2 a2
        obtain ⟨k1, k2⟩ := rdD.right H E _ _ h3 a3
        obtain ⟨l1, l2⟩ := rdD.right H E _ _ h4 a4
        obtain ⟨m1, m2⟩ := rdD.right H E _ _ h5 a5
        obtain ⟨n1, n2⟩ := rdBool.right H E _ _ h6 a6
        refine ⟨?_, i2, j2, k2, l2, m2, n2, trivial⟩
        simp only [SV.den, SV.denL, i1, j1, k1, l1, m1, n1]
        rfl
      · cases h
    · cases h
def spCkG (g : GrD) : SpecR := .scalar [g.Right] (.int .i64 (openErr g.gr))
end Sx
end
section
open Go
namespace Sx
noncomputable def grSV (ds : Nat → D) (g : Gr) : SV := .agg [.dat ((ds 0).like g.hist.sizes), .dat ((ds 1).like g.hist.writes), .dat ((ds 2).like g.hist.events), .dat ((ds 3).like g.waiting), .dat ((ds 4).like g.held), .bool g.frozen]
structure StandsG (X : SV) (g : Gr) : Prop where
  ex : ∃ ds : Nat → D, (∀ E, X.den E = (grSV ds g).den E) ∧ ∀ H, X.Ok H → (grSV ds g).Ok H
section
variable {P : Program} {w : World} {H : HV}
end
def zGr : Gr := ⟨zHist, [], [], false⟩
def freezeG (g : Gr) : Gr × Int × Int :=
  if openErr g ≠ 0 then (zGr, 0, openErr g) else if g.frozen then (zGr, 0, 26) else (⟨g.hist, g.waiting, g.held, true⟩, g.hist.writes.length, 0)
noncomputable def spFrzG (x : GrD) : SpecR := .data [x.Right] fun ds => .tup [grSV ds (freezeG x.gr).1, .int .i64 (freezeG x.gr).2.1, .int .i64 (freezeG x.gr).2.2]
def newG (s : List Int) : Gr × Int := if sizesErr s ≠ 0 then (zGr, sizesErr s) else (⟨⟨s, [], []⟩, [], [], false⟩, 0)
noncomputable def spNewG (x : D) : SpecR := .data [x.Is Int ∧ x.len ≤ 1048576] fun ds => .tup [grSV ds (newG (x.to Int)).1, .int .i64 (newG (x.to Int)).2]
end Sx
end
section
open Go
namespace Sx
def issueG (g : Gr) (w : Wt) : Gr × Int × Int :=
  if openErr g ≠ 0 then (zGr, 0, openErr g) else if (issueH g.hist w).2.2 ≠ 0 then (zGr, 0, (issueH g.hist w).2.2)
  else (⟨(issueH g.hist w).1, g.waiting ++ [(issueH g.hist w).2.1], g.held, g.frozen⟩, (issueH g.hist w).2.1, 0)
noncomputable def spIssueG (x : GrD × WtD) : SpecR := .data [x.1.Right ∧ x.1.h.e.len ≤ 1000000 ∧ x.2.Ok] fun ds => .tup [grSV ds (issueG x.1.gr x.2.wt).1, .int .i64 (issueG x.1.gr x.2.wt).2.1, .int .i64 (issueG x.1.gr x.2.wt).2.2]
end Sx
end
section
open Go
namespace Sx
section
variable {P : Program} {w : World} {H : HV}
end
def thawG (g : Gr) : Gr × List Int × Int :=
  if openErr g ≠ 0 then (zGr, [], openErr g) else if g.frozen = false then (zGr, [], 12)
  else (⟨⟨g.hist.sizes, g.hist.writes, g.hist.events ++ g.held.map (Ev.mk 1)⟩, g.waiting, [], false⟩, g.held, 0)
noncomputable def spThawG (x : GrD) : SpecR := .data [x.Right] fun ds => .tup [grSV ds (thawG x.gr).1, .dat ((ds 5).like (thawG x.gr).2.1), .int .i64 (thawG x.gr).2.2]
end Sx
end
section
open Go
namespace Sx
def durG (g : Gr) (n : Int) : Gr × List Int × Int :=
  if openErr g ≠ 0 then (zGr, [], openErr g)
  else if (idxG g.waiting fun y => decide (n = y)) < 0 then (zGr, [], 7)
  else if g.frozen = true then (⟨g.hist, g.waiting.take (idxG g.waiting fun y => decide (n = y)).toNat ++ g.waiting.drop ((idxG g.waiting fun y => decide (n = y)).toNat + 1), g.held ++ [n], true⟩, [], 0)
  else (⟨⟨g.hist.sizes, g.hist.writes, g.hist.events ++ [⟨1, n⟩]⟩, g.waiting.take (idxG g.waiting fun y => decide (n = y)).toNat ++ g.waiting.drop ((idxG g.waiting fun y => decide (n = y)).toNat + 1), g.held, false⟩, [n], 0)
noncomputable def spDurG (x : GrD × Int) : SpecR := .data [x.1.Right] fun ds => .tup [grSV ds (durG x.1.gr x.2).1, .dat ((ds 5).like (durG x.1.gr x.2).2.1), .int .i64 (durG x.1.gr x.2).2.2]
end Sx
end
section
open Go
namespace Sx
def cntI (l : List Int) (n : Int) : Nat := l.foldl (fun k x => if x = n then k + 1 else k) 0
def spCnt (x : D × Int) : SpecR := .scalar [x.1.Is Int ∧ x.1.len ≤ 1048576] (.int .i64 (cntI (x.1.to Int) x.2))
def spAckd (x : HiD × Int) : SpecR := .scalar [x.1.e.Is Ev ∧ x.1.e.len ≤ 1048576] (.bool (decide (atEv (x.1.e.to Ev) ⟨1, x.2⟩ ≥ 0)))
end Sx
end
section
namespace Sx
open Go RowKit
def cellOk (m : Mem) : SV → Bool
  | .int .. => true
  | .bool _ => true
  | .lb _ => true
  | .str _ => true
  | .nils => true
  | .dat _ => true
  | .vec j => match m.get j with
    | some (.arr ..) => true
    | some (.pub _) => true
    | _ => false
  | _ => false

def cellsOk (m : Mem) : List SV → Bool
  | [] => true
  | c :: r => cellOk m c && cellsOk m r
abbrev PSpec := List SV → List SV → Option (List Prop × ((Nat → D) → SV))
def rowD (b : Nat) (row : List D) : D := .slc (some (⟨b, 0, none⟩, 1)) row.length [row]

def PLaw (P : Program) (f : FuncId) (spec : PSpec) : Prop :=
  Bodied P f = true ∧ ∀ (H : HV) (E : Env) (b : Nat) (row : List D) (cs args : List SV), (rowD b row).Ok H → (∀ o, row.length ≤ o → H b o = none) → SV.denL E cs = row.map D.val → SV.OkL H args →
    match spec cs args with
    | some (ps, g) => (∀ p, p ∈ ps → p) → PCall P f H (SV.denL E (.elt (rowD b row) 0 0 :: args)) fun H' u =>
        ∃ hs, u = (g hs).den E ∧ ∀ H2, (∀ b' o v, b' ≠ b → H' b' o = some v → H2 b' o = some v) → (g hs).Ok H2
    | none => True

def pCtr (spec : PSpec) : Ctr := fun args _ m =>
  match args with
  | .ptr k 0 :: rest => match m.get k with
    | some (.cells _ cs) => match cellsOk m cs with
      | true => match spec cs (closeL (pubsR (leavesL rest) m) rest) with
        | some (ps, g) => .all ps fun hs => (g hs, pubsR (leavesL rest) m)
        | none => .bad
      | false => .bad
    | _ => .bad
  | _ => .bad






end Sx
end
section
namespace Sx
open Go RowKit Go.Sort
def Deletes (P : Program) (f : FuncId) : Prop := ∀ (blk cap i j : Nat) (zs : List Int) (w : World), Holds (Value.int .i64) w blk 0 zs.toArray → zs.length ≤ cap → cap ≤ 9223372036854775807 → i ≤ j → j ≤ zs.length →
  Calls P f #[.slice (some ⟨blk, 0, none⟩) zs.length cap, .int .i64 i, .int .i64 j] w fun e w' => e = .returned (.slice (some ⟨blk, 0, none⟩) (zs.length - (j - i)) cap) ∧ ∃ q, w' = putRow (Value.int .i64) (Sort.ahead w q) blk 0 (zs.take i ++ zs.drop j ++ List.replicate (j - i) 0).toArray

def dCtr (e : TypeId) : Ctr := fun args key m => match args with
  | [.vec k, .int .i64 i, .int .i64 j] => match m.get k with
    | some (.arr e' d) => if e' = e then .all [d.Is Int ∧ 0 ≤ i ∧ i < j ∧ j ≤ (d.len : Int)] fun _ => (.vec key, (key, .arr e (.slc d.hd d.sz (d.rows.take i.toNat ++ d.rows.drop j.toNat))) :: m.del k) else .bad
    | _ => .bad
  | _ => .bad








end Sx
end
section
namespace Sx
open Go RowKit

def vCtr (spec : List SV → SpecR) : Ctr := fun args _ m => match args with
  | [.view k s lo n, x] => match m.get k with
    | some (.arr _ d) => match spec [.dat (d.sub lo (lo + n)), x] with
      | .scalar ps v => match v.flat && x.flat with
        | true => .val ((d.sz = s ∧ lo + n ≤ d.len) :: ps) v m
        | false => .bad
      | _ => .bad
    | _ => .bad
  | _ => .bad
def lCtr (spec : OSpec) : Ctr := fun args key m =>
  match spec (closeL (pubsR (leavesL args) m) args) with
  | some (ps, e, mk) => .all ps fun hs => (.vec key, (key, .arr e (mk (hs 0))) :: m)
  | none => .bad
def shK (B k : Nat) : Nat := match Nat.ble PIN k with
  | true => k
  | false => k + B
def shiftC (B : Nat) (c : Conf) : Option Conf := match c.allKeys.all fun k => Nat.ble PIN k || Nat.blt (k + B) PIN with
  | true => some (renWith (shK B) c)
  | false => none
def spOwnI {β : Type} (r : Rd β) (e : TypeId) (ps : β → List Prop) (l : β → List Int) : OSpec := fun args => match r.read args with
  | some b => some (ps b, e, fun h => .slc h.hd 1 ((l b).map fun n => [.int .i64 n]))
  | none => none
end Sx
end
section
open Go
namespace Sx
def rdAk : Rd1 D where
  read x := match x with
    | .agg [a] => rdD.read a
    | _ => none
  canon d := .agg [.dat d]
  right H E x b h hok := by
    split at h
    · obtain ⟨i1, i2⟩ := rdD.right H E _ _ h hok.1
      refine ⟨?_, i2, trivial⟩
      simp only [SV.den, SV.denL, i1]
      rfl
    · cases h
def unackN (l : List Bool) (p : Nat) : List Int := filtN p fun i => !l.getD i.toNat false
noncomputable def spUna (e : TypeId) : OSpec := spOwnI (rdAk.two rdInt) e (fun x => [x.1.Is Bool ∧ 0 ≤ x.2 ∧ x.2 ≤ (x.1.len : Int) ∧ x.1.len ≤ 1048576]) fun x => unackN (x.1.to Bool) x.2.toNat
end Sx
end
section
open Go
namespace Sx
def recoverG (g : Gr) (du : List Int) : Gr × List Int × Int :=
  if openErr g ≠ 0 then (zGr, [], openErr g)
  else if du.length > g.hist.writes.length then (zGr, [], 27)
  else if ((ackd g.hist.writes.length g.hist.events).drop du.length).any (fun y => decide (true = y)) = true then (zGr, [], 27)
  else if du ≠ firstN du.length then (zGr, [], 27)
  else (⟨⟨g.hist.sizes, g.hist.writes.take du.length, g.hist.events.filter (fun x => !decide (x.write ≥ (du.length : Int))) ++ (unackN (ackd g.hist.writes.length g.hist.events) du.length).map (Ev.mk 1)⟩, [], [], false⟩, unackN (ackd g.hist.writes.length g.hist.events) du.length, 0)
noncomputable def spRecG (x : GrD × D) : SpecR := .data [x.1.Right ∧ x.2.Is Int ∧ x.2.len ≤ 1048576] fun ds => .tup [grSV ds (recoverG x.1.gr (x.2.to Int)).1, .dat ((ds 5).like (recoverG x.1.gr (x.2.to Int)).2.1), .int .i64 (recoverG x.1.gr (x.2.to Int)).2.2]
end Sx
end
section
open Go
namespace Sx
theorem cntI_from (n : Int) : ∀ (l : List Int) (k : Nat), l.foldl (fun k x => if x = n then k + 1 else k) k = k + cntI l n := by
  intro l
  unfold cntI
  induction l with
  | nil => intro k; rfl
  | cons x r ih =>
    intro k
    simp only [List.foldl_cons]
    by_cases h : x = n
    · simp only [if_pos h]; rw [ih (k + 1), ih (0 + 1)]; omega
    · simp only [if_neg h]; rw [ih k]
theorem cntI_cons (x : Int) (l : List Int) (n : Int) : cntI (x :: l) n = (if x = n then 1 else 0) + cntI l n := by
  have := cntI_from n (x :: l) 0
  rw [List.foldl_cons, cntI_from] at this
  by_cases h : x = n
  · rw [if_pos h] at this ⊢; omega
  · rw [if_neg h] at this ⊢; omega
theorem cntI_app (a b : List Int) (n : Int) : cntI (a ++ b) n = cntI a n + cntI b n := by
  have := cntI_from n (a ++ b) 0
  rw [List.foldl_append, cntI_from, cntI_from] at this
  omega
theorem cntI_pos {l : List Int} {n : Int} : 0 < cntI l n ↔ n ∈ l := by
  induction l with
  | nil => simp [cntI]
  | cons x r ih =>
    rw [cntI_cons, List.mem_cons]
    by_cases h : x = n
    · rw [if_pos h]; exact ⟨fun _ => .inl h.symm, fun _ => by omega⟩
    · rw [if_neg h]
      have h' : ¬n = x := fun e => h e.symm
      simp only [h', false_or, ← ih]; omega
theorem any_false {s : List Bool} : (s.any fun y => decide (false = y)) = false ↔ ∀ i : Nat, i < s.length → s.getD i false = true := by
  rw [List.any_eq_false]
  constructor
  · intro h i hi
    have := h s[i] (List.getElem_mem hi)
    rw [List.getD_eq_getElem?_getD, List.getElem?_eq_getElem hi]
    cases hs : s[i] with
    | true => rfl
    | false => rw [hs] at this; simp at this
  · intro h y hy
    obtain ⟨i, hi, rfl⟩ := List.getElem_of_mem hy
    have := h i hi
    rw [List.getD_eq_getElem?_getD, List.getElem?_eq_getElem hi] at this
    simp only [Option.getD_some] at this
    rw [this]; simp
theorem getD_setB {s : List Bool} {w i : Nat} (hw : w < s.length) : (s.set w true).getD i false = if w = i then true else s.getD i false := by
  rw [List.getD_eq_getElem?_getD, List.getD_eq_getElem?_getD, List.getElem?_set]
  by_cases h : w = i
  · subst h; simp [hw]
  · rw [if_neg h, if_neg h]
theorem mark_iff : ∀ (l : List Int) (s : List Bool), (∃ s', markAll l s = some s' ∧ (s'.any fun y => decide (false = y)) = false) ↔
    (∀ w, w ∈ l → 0 ≤ w ∧ w < (s.length : Int)) ∧ ∀ i : Nat, i < s.length → cntI l (i : Int) + (if s.getD i false = true then 1 else 0) = 1
  | [], s => by
    simp only [markAll, Option.some.injEq, exists_eq_left', any_false, List.not_mem_nil, false_implies, implies_true, true_and]
    constructor
    · intro h i hi; rw [if_pos (h i hi)]; rfl
    · intro h i hi
      have := h i hi
      split at this
      · assumption
      · exact absurd this (by simp [cntI])
  | w :: l, s => by
    by_cases h1 : w < 0 ∨ w ≥ s.length
    · rw [mark_out h1]
      constructor
      · rintro ⟨_, h, _⟩; cases h
      · rintro ⟨h, _⟩; have := h w List.mem_cons_self; omega
    · obtain ⟨x, rfl⟩ := Int.eq_ofNat_of_zero_le (show 0 ≤ w by omega)
      have hx : x < s.length := by omega
      cases h2 : s.getD x false with
      | true =>
        rw [mark_hit (by simpa using h2)]
        constructor
        · rintro ⟨_, h, _⟩; cases h
        · rintro ⟨_, h⟩
          have := h x hx
          rw [cntI_cons, if_pos rfl, if_pos h2] at this; omega
      | false =>
        rw [mark_go h1 (by simpa using h2), mark_iff l]
        simp only [Int.toNat_natCast, List.length_set, List.mem_cons]
        constructor
        · rintro ⟨h, h'⟩
          refine ⟨fun w hw => ?_, fun i hi => ?_⟩
          · rcases hw with rfl | hw
            · omega
            · exact h w hw
          · have := h' i hi
            simp only [getD_setB hx] at this
            rw [cntI_cons]
            by_cases e : x = i
            · subst e; simp only [if_pos] at this; rw [if_pos rfl, h2]; simp; simpa using this
            · simp only [if_neg e] at this
              rw [if_neg (by omega), Nat.zero_add]; exact this
        · rintro ⟨h, h'⟩
          refine ⟨fun w hw => h w (.inr hw), fun i hi => ?_⟩
          have := h' i hi
          simp only [getD_setB hx]
          rw [cntI_cons] at this
          by_cases e : x = i
          · subst e; rw [if_pos rfl, h2] at this; simp at this; simp [this]
          · simp only [if_neg e]
            rw [if_neg (by omega), Nat.zero_add] at this; exact this
theorem divided_iff (g : Gr) : divided g = true ↔ asc g.waiting = true ∧ (∀ w, w ∈ g.waiting ++ g.held → 0 ≤ w ∧ w < (g.hist.writes.length : Int)) ∧
    ∀ i : Nat, i < g.hist.writes.length → cntI (g.waiting ++ g.held) (i : Int) + (if (ackd g.hist.writes.length g.hist.events).getD i false = true then 1 else 0) = 1 := by
  have h := mark_iff (g.waiting ++ g.held) (ackd g.hist.writes.length g.hist.events)
  rw [ackd_len] at h
  rw [← h]
  unfold divided
  rw [Bool.and_eq_true]
  refine and_congr Iff.rfl ?_
  cases markAll (g.waiting ++ g.held) (ackd g.hist.writes.length g.hist.events) with
  | none => simp
  | some s => simp
theorem ackd_from : ∀ (l : List Ev) (a : List Bool), (∀ e, e ∈ l → 0 ≤ e.write) → ∀ i : Nat, i < a.length → ((l.foldl ackStep a).getD i false = true ↔ a.getD i false = true ∨ (⟨1, (i : Int)⟩ : Ev) ∈ l)
  | [], a, _, i, _ => by simp
  | e :: l, a, h, i, hi => by
    have he := h e List.mem_cons_self
    rw [List.foldl_cons, ackd_from l _ (fun x hx => h x (List.mem_cons_of_mem _ hx)) i (by rw [ackStep_len]; exact hi), List.mem_cons]
    unfold ackStep
    obtain ⟨k, w⟩ := e
    simp only at he ⊢
    by_cases hk : k = 1
    · subst hk
      rw [if_pos rfl]
      by_cases hw : w.toNat < a.length
      · rw [getD_setB hw]
        by_cases hi : w.toNat = i
        · rw [if_pos hi]
          have : w = (i : Int) := by omega
          subst this; simp
        · rw [if_neg hi]
          have : ¬((⟨1, (i : Int)⟩ : Ev) = ⟨1, w⟩) := by intro e; injection e with _ e; omega
          simp [this]
      · rw [List.set_eq_of_length_le (by omega)]
        have : ¬((⟨1, (i : Int)⟩ : Ev) = ⟨1, w⟩) := by intro e; injection e with _ e; omega
        simp [this]
    · rw [if_neg hk]
      have : ¬((⟨1, (i : Int)⟩ : Ev) = ⟨k, w⟩) := by intro e; injection e with e _; exact hk e.symm
      simp [this]
theorem ackd_mem {n : Nat} {l : List Ev} (h : ∀ e, e ∈ l → 0 ≤ e.write) {i : Nat} (hi : i < n) : (ackd n l).getD i false = true ↔ (⟨1, (i : Int)⟩ : Ev) ∈ l := by
  unfold ackd
  rw [ackd_from l _ h i (by simpa using hi)]
  have : (List.replicate n false).getD i false = false := by
    rw [List.getD_eq_getElem?_getD]; simp [List.getElem?_replicate, hi]
  rw [this]; simp
theorem atEv_mem {l : List Ev} {e : Ev} : atEv l e ≥ 0 ↔ e ∈ l := by
  rcases atEv_cases l e with ⟨h1, h2⟩ | ⟨h1, h2, h3⟩
  · rw [h1]; simp [h2]
  · simp [h3]; exact h1
theorem checkH_in {h : Hist} (hc : (checkH h).1 = 0) : ∀ e, e ∈ h.events → (e.kind = 0 ∨ e.kind = 1) ∧ 0 ≤ e.write ∧ e.write < (h.writes.length : Int) := fun e he => by
  obtain ⟨t, hl, _⟩ := checkH_ok hc
  have := t.kind e he
  rwa [hl] at this
theorem asc_pair {l : List Int} (h : asc l = true) : l.Pairwise (· < ·) := by
  rw [List.pairwise_iff_getElem]
  intro i j hi hj hij
  obtain ⟨d, rfl⟩ := Nat.exists_eq_add_of_lt hij
  clear hij
  have h := (asc_iff l).1 h
  induction d with
  | zero => have := h i hj; rwa [getD_lt hi, getD_lt hj] at this
  | succ d ih =>
    have h1 := ih (by omega)
    have h2 := h (i + d + 1) (by omega)
    rw [getD_lt (show i + d + 1 < l.length by omega), getD_lt (show i + d + 1 + 1 < l.length by omega)] at h2
    have e : i + (d + 1) + 1 = i + d + 1 + 1 := by omega
    simp only [e]; omega
theorem setH_iff {l : List Int} {n : Int} : setH l n = true ↔ asc l = true ∧ ∀ w, w ∈ l → 0 ≤ w ∧ w < n := by
  constructor
  · intro h
    refine ⟨(asc_iff l).2 fun i hi => setUp_lt h (Nat.lt_succ_self i) hi, fun w hw => ?_⟩
    obtain ⟨k, hk, rfl⟩ := List.getElem_of_mem hw
    exact setH_in h hk
  · rintro ⟨h1, h2⟩
    exact setUp_of (asc_pair h1) h2 _ (Nat.le_refl _)
def refErrG (g : Gr) : Int :=
  if (checkH g.hist).1 ≠ 0 then (checkH g.hist).1
  else if setH g.waiting g.hist.writes.length = false then 3
  else if (g.held.all fun w => decide (0 ≤ w) && decide (w < (g.hist.writes.length : Int))) = false then 3
  else if ((List.range g.hist.writes.length).all fun i => decide (cntI g.waiting (i : Int) + cntI g.held (i : Int) = if atEv g.hist.events ⟨1, (i : Int)⟩ ≥ 0 then 0 else 1)) = false then 3
  else if g.held.length > 0 ∧ g.frozen = false then 12 else 0
end Sx
end
section
open Go
namespace Sx
theorem runEv_more {n m : Nat} {l : List Ev} : ∀ j, (runEv n l j).1 = 0 → (runEv n l j).2.issued.length ≤ m → runEv m l j = runEv n l j
  | 0, _, _ => rfl
  | j + 1, h0, hm => by
    unfold runEv at h0 hm ⊢
    split at h0
    · rename_i h1; exact absurd h0 h1
    · rename_i h1
      rw [if_neg h1] at hm
      have h1' : (runEv n l j).1 = 0 := by simpa using h1
      cases e : l[j]? with
      | none =>
        rw [e] at h0 hm
        simp only at h0 hm
        have ih := runEv_more j h1' hm
        rw [ih, if_neg h1]
      | some x =>
        rw [e] at h0 hm
        simp only at h0 hm
        have hle := evStep_len h0
        have ih := runEv_more (m := m) j h1' (by omega)
        rw [ih, if_neg h1, if_neg h1]
        simp only
        unfold evStep at h0 hm hle ⊢
        split at h0
        · rename_i hk
          simp only [if_pos hk] at hm hle ⊢
          split at h0
          · exact absurd h0 (by simp)
          · rename_i hc
            rw [if_neg hc] at hm ⊢
            simp only [List.length_append, List.length_singleton] at hm
            rw [if_neg (by omega)]
        · rename_i hk
          simp only [if_neg hk]
theorem runEv_take {n : Nat} {l : List Ev} {k : Nat} (hk : k ≤ l.length) : ∀ j, j ≤ k → runEv n (l.take k) j = runEv n l j
  | 0, _ => rfl
  | j + 1, hj => by
    unfold runEv
    rw [runEv_take hk j (by omega)]
    rw [List.getElem?_take_of_lt (by omega)]
theorem runEv_app {n : Nat} {l : List Ev} {e : Ev} (h0 : (runEv n l l.length).1 = 0) : runEv n (l ++ [e]) (l ++ [e]).length = evStep n l.length (runEv n l l.length).2 e := by
  have h1 := runEv_take (n := n) (l := l ++ [e]) (k := l.length) (by simp) l.length (Nat.le_refl _)
  rw [List.take_left'  rfl] at h1
  rw [List.length_append, List.length_singleton]
  conv => lhs; unfold runEv
  rw [← h1, if_neg (by simp [h0])]
  simp
theorem checkH_of {h : Hist} (h1 : sizesErr h.sizes = 0) (h2 : h.writes.length ≤ 4096) (h3 : firstErr h.sizes h.writes = 0) (h4 : (runEv h.writes.length h.events h.events.length).1 = 0)
    (h5 : h.writes.length ≤ (runEv h.writes.length h.events h.events.length).2.issued.length) : (checkH h).1 = 0 := by
  unfold checkH
  rw [if_neg (by simp [h1]), if_neg (by omega), if_neg (by simp [h3]), if_neg (by simp [h4]), if_neg (by omega)]
theorem newH_check {s : List Int} (h : (newH s).2 = 0) : (checkH (newH s).1).1 = 0 := by
  unfold newH at h ⊢
  split at h
  · rename_i h1; exact absurd h h1
  · rename_i h1
    rw [if_neg h1]
    exact checkH_of (by simpa using h1) (by simp) rfl rfl (by simp)
theorem ackH_inv {h : Hist} {n : Int} (h0 : (ackH h n).2 = 0) : (checkH h).1 = 0 ∧ 0 ≤ n ∧ n < h.writes.length ∧ atEv h.events ⟨1, n⟩ < 0 ∧ (ackH h n).1 = ⟨h.sizes, h.writes, h.events ++ [⟨1, n⟩]⟩ := by
  unfold ackH at h0 ⊢
  split at h0
  · rename_i h1; exact absurd h0 h1
  · rename_i h1
    rw [if_neg h1]
    split at h0
    · exact absurd h0 (by simp)
    · rename_i h2
      rw [if_neg h2]
      split at h0
      · exact absurd h0 (by simp)
      · rename_i h3
        rw [if_neg h3]
        exact ⟨by simpa using h1, by omega, by omega, by omega, rfl⟩
theorem issueH_inv {h : Hist} {w : Wt} (h0 : (issueH h w).2.2 = 0) : (checkH h).1 = 0 ∧ h.writes.length < 4096 ∧ fitsErr h.sizes w = 0 ∧ (issueH h w).1 = ⟨h.sizes, h.writes ++ [w], h.events ++ [⟨0, h.writes.length⟩]⟩ := by
  unfold issueH at h0 ⊢
  split at h0
  · rename_i h1; exact absurd h0 h1
  · rename_i h1
    rw [if_neg h1]
    split at h0
    · exact absurd h0 (by simp)
    · rename_i h2
      rw [if_neg h2]
      split at h0
      · rename_i h3; exact absurd h0 h3
      · rename_i h3
        rw [if_neg h3]
        exact ⟨by simpa using h1, by omega, by simpa using h3, rfl⟩
theorem ackH_check {h : Hist} {n : Int} (h0 : (ackH h n).2 = 0) : (checkH (ackH h n).1).1 = 0 := by
  obtain ⟨hc, h1, h2, h3, e⟩ := ackH_inv h0
  rw [e]
  obtain ⟨htl, hlen, k1, k2, k3⟩ := checkH_ok hc
  obtain ⟨r1, r2⟩ := checkH_run hc
  rw [r2] at htl hlen
  have ha := runEv_app (n := h.writes.length) (e := ⟨1, n⟩) r1
  have hs : evStep h.writes.length h.events.length (runEv h.writes.length h.events h.events.length).2 ⟨1, n⟩ = (0, ⟨(runEv h.writes.length h.events h.events.length).2.issued, (runEv h.writes.length h.events h.events.length).2.acked.set n.toNat h.events.length⟩) := by
    obtain ⟨y, rfl⟩ := Int.eq_ofNat_of_zero_le h1
    have hy : y < (runEv h.writes.length h.events h.events.length).2.acked.length := by have := htl.len; omega
    have e2 : (runEv h.writes.length h.events h.events.length).2.acked.getD (Int.toNat (y : Int)) 0 = atEv h.events ⟨1, y⟩ := by rw [← htl.ack y hy, Int.toNat_natCast]; exact getD_lt hy
    unfold evStep
    simp only
    rw [if_neg (by decide), if_pos trivial, if_neg (by omega), e2, if_neg (by omega)]
  rw [hs] at ha
  exact checkH_of k1 k2 k3 (by simp only [ha]) (by simp only [ha]; omega)
theorem issueH_check {h : Hist} {w : Wt} (h0 : (issueH h w).2.2 = 0) : (checkH (issueH h w).1).1 = 0 := by
  obtain ⟨hc, h1, h2, e⟩ := issueH_inv h0
  rw [e]
  obtain ⟨htl, hlen, k1, k2, k3⟩ := checkH_ok hc
  obtain ⟨r1, r2⟩ := checkH_run hc
  rw [r2] at hlen
  have hm := runEv_more (m := h.writes.length + 1) h.events.length r1 (by omega)
  have ha := runEv_app (n := h.writes.length + 1) (l := h.events) (e := ⟨0, h.writes.length⟩) (by rw [hm]; exact r1)
  rw [hm] at ha
  have hs : evStep (h.writes.length + 1) h.events.length (runEv h.writes.length h.events h.events.length).2 ⟨0, h.writes.length⟩ = (0, ⟨(runEv h.writes.length h.events h.events.length).2.issued ++ [(h.events.length : Int)], (runEv h.writes.length h.events h.events.length).2.acked ++ [-1]⟩) := by
    unfold evStep
    simp only
    rw [if_pos trivial, if_neg (by omega)]
  rw [hs] at ha
  refine checkH_of k1 (by simp; omega) ?_ ?_ ?_
  · simp only [firstErr_append, k3]; simp [firstErr, h2]
  · simp only [List.length_append, List.length_singleton] at ha ⊢; rw [ha]
  · simp only [List.length_append, List.length_singleton] at ha ⊢; rw [ha]; simp; omega
theorem stepE_check {ws : List Wt} {st : Hist × Nat} {e : Ev} (h : (checkH st.1).1 = 0) : (checkH (stepE ws st e).1).1 = 0 := by
  unfold stepE
  split
  · split
    · rename_i h1; exact ackH_check h1
    · exact h
  · split
    · split
      · rename_i h1; exact issueH_check h1
      · exact h
    · exact h
theorem runE_check {ws : List Wt} {h0 : Hist} {evs : List Ev} (h : (checkH h0).1 = 0) : ∀ j, j ≤ evs.length → (checkH (runE ws h0 evs j).1).1 = 0
  | 0, _ => by simp only [runE, List.take_zero, List.foldl_nil]; exact h
  | j + 1, hj => by rw [runE_succ (by omega)]; exact stepE_check (runE_check h j (by omega))
theorem newH_sizes {s : List Int} (h : sizesErr s = 0) : newH s = (⟨s, [], []⟩, 0) := by
  unfold newH; rw [if_neg (by simp [h])]
theorem replay_upto {h : Hist} (hc : (checkH h).1 = 0) : ∀ j, j ≤ h.events.length →
    runE h.writes (newH h.sizes).1 h.events j = (⟨h.sizes, h.writes.take (runEv h.writes.length h.events j).2.issued.length, h.events.take j⟩, (runEv h.writes.length h.events j).2.issued.length) ∧ (runEv h.writes.length h.events j).1 = 0
  | 0, _ => by
    obtain ⟨_, _, k1, _, _⟩ := checkH_ok hc
    simp only [runE, List.take_zero, List.foldl_nil, newH_sizes k1, runEv, List.length_nil, and_self]
  | j + 1, hj => by
    obtain ⟨ih, i0⟩ := replay_upto hc j (by omega)
    obtain ⟨htl, hlen, k1, k2, k3⟩ := checkH_ok hc
    obtain ⟨r1, r2⟩ := checkH_run hc
    -- up to here the history is correct
    have hcj := runE_check (ws := h.writes) (evs := h.events) (newH_check (s := h.sizes) (by rw [newH_sizes k1])) j (by omega)
    rw [ih] at hcj
    have tj := runEv_ok (n := h.writes.length) (l := h.events) j (by omega) i0
    -- the next one is correct
    have s1 : (runEv h.writes.length h.events (j + 1)).1 = 0 := by
      have mono : ∀ d, (runEv h.writes.length h.events (j + 1 + d)).1 = 0 → (runEv h.writes.length h.events (j + 1)).1 = 0 := by
        intro d
        induction d with
        | zero => exact id
        | succ d ihd =>
          intro hz
          have hz : (runEv h.writes.length h.events (j + 1 + d + 1)).1 = 0 := hz
          apply ihd
          unfold runEv at hz
          split at hz
          · rename_i hn; exact absurd hz hn
          · rename_i hn; simpa using hn
      have := mono (h.events.length - (j + 1)) (by rw [show j + 1 + (h.events.length - (j + 1)) = h.events.length by omega]; exact r1)
      exact this
    have hjl : j < h.events.length := by omega
    have e1 : runEv h.writes.length h.events (j + 1) = evStep h.writes.length j (runEv h.writes.length h.events j).2 h.events[j] := by
      conv => lhs; unfold runEv
      rw [if_neg (by simp [i0])]
      simp [hjl]
    refine ⟨?_, s1⟩
    rw [runE_succ hjl, ih, List.take_succ_eq_append_getElem hjl]
    rw [e1] at s1 ⊢
    generalize hT : (runEv h.writes.length h.events j).2 = T at *
    generalize hE : h.events[j] = e at *
    obtain ⟨k, x⟩ := e
    have hTl := tj.le
    unfold stepE
    unfold evStep at s1 ⊢
    simp only at s1 ⊢
    by_cases hk : k = 0
    · subst hk
      rw [if_pos rfl] at s1 ⊢
      rw [if_neg (show ¬((0 : Int) = 1) by decide)]
      by_cases hq : x ≠ T.issued.length ∨ x ≥ h.writes.length
      · rw [if_pos hq] at s1; exact absurd s1 (by simp)
      · rw [if_neg hq]
        have hlt : T.issued.length < h.writes.length := by omega
        have hx : x = T.issued.length := by omega
        subst hx
        rw [if_pos hlt]
        have hw : h.writes.getD T.issued.length zWt = h.writes[T.issued.length] := by simp [hlt]
        rw [hw]
        have hf : fitsErr h.sizes h.writes[T.issued.length] = 0 := by
          have := firstErr_take (s := h.sizes) hlt
          have t1 : firstErr h.sizes (h.writes.take (T.issued.length + 1)) = 0 := by
            rcases Classical.em (firstErr h.sizes (h.writes.take (T.issued.length + 1)) = 0) with h' | h'
            · exact h'
            · have := firstErr_of_take h'; rw [k3] at this; exact this.symm
          have t2 : firstErr h.sizes (h.writes.take T.issued.length) = 0 := by
            rcases Classical.em (firstErr h.sizes (h.writes.take T.issued.length) = 0) with h' | h'
            · exact h'
            · have := firstErr_of_take h'; rw [k3] at this; exact this.symm
          rw [t1, t2] at this
          simpa using this.symm
        have hl : (h.writes.take T.issued.length).length = T.issued.length := by rw [List.length_take]; omega
        have hi : issueH ⟨h.sizes, h.writes.take T.issued.length, h.events.take j⟩ h.writes[T.issued.length] = (⟨h.sizes, h.writes.take T.issued.length ++ [h.writes[T.issued.length]], h.events.take j ++ [⟨0, (h.writes.take T.issued.length).length⟩]⟩, ((h.writes.take T.issued.length).length : Int), (0 : Int)) := by
          unfold issueH
          rw [if_neg (by simp only [hcj]; simp), if_neg (by simp only [hl]; omega), if_neg (by simp only [hf]; simp)]
        rw [hi]
        simp only [if_pos, List.length_append, List.length_singleton, hl]
        rw [List.take_succ_eq_append_getElem hlt]
    · rw [if_neg hk] at s1 ⊢
      by_cases hk1 : k = 1
      · subst hk1
        rw [if_pos rfl] at s1 ⊢
        rw [if_pos rfl]
        by_cases hq : x < 0 ∨ x ≥ T.issued.length
        · rw [if_pos hq] at s1; exact absurd s1 (by simp)
        · rw [if_neg hq] at s1 ⊢
          by_cases hd : T.acked.getD x.toNat 0 ≥ 0
          · rw [if_pos hd] at s1; exact absurd s1 (by simp)
          · rw [if_neg hd]
            obtain ⟨y, rfl⟩ := Int.eq_ofNat_of_zero_le (show 0 ≤ x by omega)
            have hy : y < T.acked.length := by have := tj.len; omega
            have e2 : T.acked.getD (Int.toNat (y : Int)) 0 = atEv (h.events.take j) ⟨1, y⟩ := by rw [← tj.ack y hy, Int.toNat_natCast]; exact getD_lt hy
            have hl : (h.writes.take T.issued.length).length = T.issued.length := by rw [List.length_take]; omega
            have hi : ackH ⟨h.sizes, h.writes.take T.issued.length, h.events.take j⟩ (y : Int) = (⟨h.sizes, h.writes.take T.issued.length, h.events.take j ++ [⟨1, y⟩]⟩, (0 : Int)) := by
              unfold ackH
              rw [if_neg (by simp only [hcj]; simp), if_neg (by simp only [hl]; omega), if_neg (by simp only; rw [← e2]; exact hd)]
            rw [hi]
            simp only [if_pos]
      · rw [if_neg hk1] at s1; exact absurd s1 (by simp)
end Sx
end
section
open Go
namespace Sx
def iss (l : List Ev) : Nat := l.countP fun e => decide (e.kind = 0)
theorem iss_app (a b : List Ev) : iss (a ++ b) = iss a + iss b := List.countP_append ..
theorem iss_one (e : Ev) : iss [e] = if e.kind = 0 then 1 else 0 := by
  unfold iss; rw [List.countP_cons]; by_cases h : e.kind = 0 <;> simp [h]
def stepOk (n : Nat) (p : List Ev) (e : Ev) : Prop := (e.kind = 0 ∧ e.write = (iss p : Int) ∧ e.write < n) ∨ (e.kind = 1 ∧ 0 ≤ e.write ∧ e.write < (iss p : Int) ∧ (⟨1, e.write⟩ : Ev) ∉ p)
inductive EvOk (n : Nat) : List Ev → Prop
  | nil : EvOk n []
  | snoc (l : List Ev) (e : Ev) : EvOk n l → stepOk n l e → EvOk n (l ++ [e])
theorem step_iff {n : Nat} {p : List Ev} {t : Tl} {i : Int} {e : Ev} (h : TlOk n p t) (hi : t.issued.length = iss p) : (evStep n i t e).1 = 0 ↔ stepOk n p e := by
  unfold evStep stepOk
  by_cases hk : e.kind = 0
  · rw [if_pos hk]
    by_cases hc : e.write ≠ t.issued.length ∨ e.write ≥ n
    · rw [if_pos hc]
      constructor
      · intro h; exact absurd h (by simp)
      · rintro (⟨_, h1, h2⟩ | ⟨h1, _⟩)
        · omega
        · omega
    · rw [if_neg hc]
      exact ⟨fun _ => .inl ⟨hk, by omega, by omega⟩, fun _ => rfl⟩
  · rw [if_neg hk]
    by_cases hk1 : e.kind = 1
    · rw [if_pos hk1]
      by_cases hc : e.write < 0 ∨ e.write ≥ t.issued.length
      · rw [if_pos hc]
        constructor
        · intro h; exact absurd h (by simp)
        · rintro (⟨h1, _⟩ | ⟨_, h1, h2, _⟩)
          · exact absurd h1 hk
          · omega
      · rw [if_neg hc]
        obtain ⟨y, hy⟩ := Int.eq_ofNat_of_zero_le (show 0 ≤ e.write by omega)
        have hy2 : y < t.acked.length := by have := h.len; omega
        have e2 : t.acked.getD e.write.toNat 0 = atEv p ⟨1, e.write⟩ := by rw [hy, ← h.ack y hy2]; simp [hy2]
        rw [e2]
        by_cases ha : atEv p ⟨1, e.write⟩ ≥ 0
        · rw [if_pos ha]
          constructor
          · intro h; exact absurd h (by simp)
          · rintro (⟨h1, _⟩ | ⟨_, _, _, h1⟩)
            · exact absurd h1 hk
            · exact absurd (atEv_mem.1 ha) h1
        · rw [if_neg ha]
          exact ⟨fun _ => .inr ⟨hk1, by omega, by omega, fun hm => ha (atEv_mem.2 hm)⟩, fun _ => rfl⟩
    · rw [if_neg hk1]
      constructor
      · intro h; exact absurd h (by simp)
      · rintro (⟨h1, _⟩ | ⟨h1, _⟩)
        · exact absurd h1 hk
        · exact absurd h1 hk1
theorem evOk_run {n : Nat} {l : List Ev} : ∀ j, j ≤ l.length → (runEv n l j).1 = 0 → EvOk n (l.take j) ∧ (runEv n l j).2.issued.length = iss (l.take j)
  | 0, _, _ => ⟨by rw [List.take_zero]; exact .nil, rfl⟩
  | j + 1, hj, h0 => by
    have h1 : (runEv n l j).1 = 0 := by
      apply Classical.byContradiction
      intro hne
      have := runEv_stop hne 1
      rw [this] at h0; exact hne h0
    obtain ⟨i1, i2⟩ := evOk_run j (by omega) h1
    rw [runEv_step (by omega) h1] at h0 ⊢
    have ht := runEv_ok (n := n) (l := l) j (by omega) h1
    have hs := (step_iff (i := (j : Int)) (e := l[j]) ht i2).1 h0
    have hlen := evStep_len h0
    rw [List.take_succ_eq_append_getElem (by omega : j < l.length)]
    refine ⟨.snoc _ _ i1 hs, ?_⟩
    rw [iss_app, iss_one]
    by_cases hk : l[j].kind = 0
    · rw [if_pos hk] at hlen ⊢; omega
    · rw [if_neg hk] at hlen ⊢; omega
theorem run_evOk {n : Nat} {l : List Ev} (h : EvOk n l) : (runEv n l l.length).1 = 0 ∧ (runEv n l l.length).2.issued.length = iss l := by
  induction h with
  | nil => exact ⟨rfl, rfl⟩
  | snoc l e hl hs ih =>
    obtain ⟨i1, i2⟩ := ih
    rw [runEv_app i1]
    have ht := runEv_ok (n := n) (l := l) l.length (Nat.le_refl _) i1
    rw [List.take_length] at ht
    have h0 := (step_iff (i := (l.length : Int)) (e := e) ht i2).2 hs
    have hlen := evStep_len h0
    refine ⟨h0, ?_⟩
    rw [iss_app, iss_one]
    by_cases hk : e.kind = 0
    · rw [if_pos hk] at hlen ⊢; omega
    · rw [if_neg hk] at hlen ⊢; omega
theorem firstErr_zero {s : List Int} : ∀ {l : List Wt}, firstErr s l = 0 ↔ ∀ w, w ∈ l → fitsErr s w = 0
  | [] => by simp [firstErr]
  | w :: r => by
    rw [firstErr_cons]
    by_cases h : fitsErr s w ≠ 0
    · rw [if_pos h]
      exact ⟨fun e => absurd e h, fun e => e w List.mem_cons_self⟩
    · rw [if_neg h, firstErr_zero (l := r)]
      have h : fitsErr s w = 0 := by simpa using h
      simp [h]
theorem checkH_iff {h : Hist} : (checkH h).1 = 0 ↔ sizesErr h.sizes = 0 ∧ h.writes.length ≤ 4096 ∧ (∀ w, w ∈ h.writes → fitsErr h.sizes w = 0) ∧ EvOk h.writes.length h.events ∧ iss h.events = h.writes.length := by
  constructor
  · intro hc
    obtain ⟨htl, hlen, k1, k2, k3⟩ := checkH_ok hc
    obtain ⟨r1, r2⟩ := checkH_run hc
    obtain ⟨e1, e2⟩ := evOk_run _ (Nat.le_refl _) r1
    rw [List.take_length] at e1 e2
    rw [r2] at hlen
    exact ⟨k1, k2, firstErr_zero.1 k3, e1, by omega⟩
  · rintro ⟨k1, k2, k3, k4, k5⟩
    obtain ⟨e1, e2⟩ := run_evOk k4
    exact checkH_of k1 k2 (firstErr_zero.2 k3) e1 (by omega)

/-! Restricted. -/
def cntB (s : List Int) (m : Int) : Nat := s.countP fun x => decide (x < m)
theorem pickW_mem {ws : List Wt} {s : List Int} (h : ∀ x, x ∈ s → 0 ≤ x ∧ x < (ws.length : Int)) {w : Wt} (hw : w ∈ pickW ws s) : w ∈ ws := by
  unfold pickW at hw
  obtain ⟨x, hx, rfl⟩ := List.mem_map.1 hw
  have := h x hx
  have hl : x.toNat < ws.length := by omega
  rw [List.getD_eq_getElem?_getD, List.getElem?_eq_getElem hl]
  exact List.getElem_mem hl
end Sx
end
section
open Go
namespace Sx
theorem asc_of {l : List Int} (h : l.Pairwise (· < ·)) : asc l = true :=
  (asc_iff l).2 fun i hi => by rw [getD_lt (by omega), getD_lt hi]; exact (List.pairwise_iff_getElem.1 h) i (i + 1) (by omega) hi (by omega)
theorem openErr_iff (g : Gr) : openErr g = 0 ↔ (checkH g.hist).1 = 0 ∧ g.waiting.Pairwise (· < ·) ∧ (∀ w, w ∈ g.waiting ++ g.held → 0 ≤ w ∧ w < (g.hist.writes.length : Int)) ∧
    (∀ i : Nat, i < g.hist.writes.length → cntI g.waiting (i : Int) + cntI g.held (i : Int) + (if (⟨1, (i : Int)⟩ : Ev) ∈ g.hist.events then 1 else 0) = 1) ∧ (g.held ≠ [] → g.frozen = true) := by
  have key : (checkH g.hist).1 = 0 → ((∀ i : Nat, i < g.hist.writes.length → cntI (g.waiting ++ g.held) (i : Int) + (if (ackd g.hist.writes.length g.hist.events).getD i false = true then 1 else 0) = 1) ↔
      (∀ i : Nat, i < g.hist.writes.length → cntI g.waiting (i : Int) + cntI g.held (i : Int) + (if (⟨1, (i : Int)⟩ : Ev) ∈ g.hist.events then 1 else 0) = 1)) := fun hc =>
    forall_congr' fun i => forall_congr' fun hi => by
      have := ackd_mem (fun e he => (checkH_in hc e he).2.1) hi
      simp only [this, cntI_app]
  unfold openErr
  by_cases hc : (checkH g.hist).1 ≠ 0
  · rw [if_pos hc]
    exact ⟨fun h => absurd h hc, fun h => absurd h.1 hc⟩
  · rw [if_neg hc]
    have hc : (checkH g.hist).1 = 0 := by simpa using hc
    cases hd : divided g with
    | false =>
      rw [if_pos rfl]
      refine ⟨fun h => absurd h (by decide), fun ⟨_, h1, h2, h3, _⟩ => ?_⟩
      have := (divided_iff g).2 ⟨asc_of h1, h2, (key hc).2 h3⟩
      rw [hd] at this; cases this
    | true =>
      rw [if_neg (by simp)]
      obtain ⟨d1, d2, d3⟩ := (divided_iff g).1 hd
      by_cases hh : g.held.length > 0 ∧ g.frozen = false
      · rw [if_pos hh]
        refine ⟨fun h => absurd h (by decide), fun ⟨_, _, _, _, h⟩ => ?_⟩
        have := h (by intro e; rw [e] at hh; simp at hh)
        rw [hh.2] at this; cases this
      · rw [if_neg hh]
        refine ⟨fun _ => ⟨hc, asc_pair d1, d2, (key hc).1 d3, fun hne => ?_⟩, fun _ => rfl⟩
        cases hf : g.frozen with
        | true => rfl
        | false => exact absurd ⟨List.length_pos_iff.2 hne, hf⟩ hh

def withoutI (l : List Int) (n : Int) : List Int := l.filter fun x => !decide (x = n)
theorem ackH_go {h : Hist} {n : Int} (hc : (checkH h).1 = 0) (h1 : 0 ≤ n ∧ n < (h.writes.length : Int)) (h2 : (⟨1, n⟩ : Ev) ∉ h.events) : ackH h n = (⟨h.sizes, h.writes, h.events ++ [⟨1, n⟩]⟩, 0) := by
  unfold ackH
  rw [if_neg (by simp [hc]), if_neg (by omega), if_neg (by rw [atEv_mem]; exact h2)]
def ackAll (l : List Int) (h : Hist) : Hist := l.foldl (fun h n => (ackH h n).1) h
theorem ackAll_go : ∀ {l : List Int} {h : Hist}, (checkH h).1 = 0 → l.Nodup → (∀ n, n ∈ l → (0 ≤ n ∧ n < (h.writes.length : Int)) ∧ (⟨1, n⟩ : Ev) ∉ h.events) →
    ackAll l h = ⟨h.sizes, h.writes, h.events ++ l.map (Ev.mk 1)⟩ ∧ (checkH ⟨h.sizes, h.writes, h.events ++ l.map (Ev.mk 1)⟩).1 = 0
  | [], h, hc, _, _ => by simp [ackAll, hc]
  | x :: r, h, hc, hn, hx => by
    rw [List.nodup_cons] at hn
    obtain ⟨a, b⟩ := hx x List.mem_cons_self
    have e := ackH_go hc a b
    have hc2 := ackH_check (h := h) (n := x) (by rw [e])
    rw [e] at hc2
    have := ackAll_go (l := r) hc2 hn.2 fun n hnr => by
      obtain ⟨a', b'⟩ := hx n (List.mem_cons_of_mem _ hnr)
      refine ⟨a', ?_⟩
      simp only [List.mem_append, List.mem_singleton, not_or]
      refine ⟨b', fun e => ?_⟩
      injection e with _ e
      subst e; exact hn.1 hnr
    simp only [List.map_cons]
    have ap : h.events ++ ({ kind := 1, write := x } : Ev) :: r.map (Ev.mk 1) = h.events ++ [⟨1, x⟩] ++ r.map (Ev.mk 1) := by simp
    rw [ap]
    refine ⟨?_, this.2⟩
    rw [← this.1]
    show r.foldl (fun h n => (ackH h n).1) (ackH h x).1 = _
    rw [e]; rfl
theorem nodup_cnt : ∀ {l : List Int}, (∀ n, n ∈ l → cntI l n ≤ 1) → l.Nodup
  | [], _ => List.nodup_nil
  | x :: r, h => by
    rw [List.nodup_cons]
    constructor
    · intro hm
      have := h x List.mem_cons_self
      rw [cntI_cons, if_pos rfl] at this
      have := cntI_pos.2 hm
      omega
    · refine nodup_cnt fun n hn => ?_
      have := h n (List.mem_cons_of_mem _ hn)
      rw [cntI_cons] at this; omega

/-! Durable. -/
def durR (g : Gr) (n : Int) : Gr × List Int × Int :=
  if openErr g ≠ 0 then (zGr, [], openErr g)
  else if g.waiting.contains n = false then (zGr, [], 7)
  else if g.frozen = true then (⟨g.hist, withoutI g.waiting n, g.held ++ [n], true⟩, [], 0)
  else (⟨(ackH g.hist n).1, withoutI g.waiting n, g.held, false⟩, [n], 0)
theorem held_free {g : Gr} (h : openErr g = 0) : g.held.Nodup ∧ ∀ n, n ∈ g.held → (0 ≤ n ∧ n < (g.hist.writes.length : Int)) ∧ (⟨1, n⟩ : Ev) ∉ g.hist.events := by
  obtain ⟨hc, h1, h2, h3, h4⟩ := (openErr_iff g).1 h
  have key : ∀ n, n ∈ g.held → (0 ≤ n ∧ n < (g.hist.writes.length : Int)) ∧ (⟨1, n⟩ : Ev) ∉ g.hist.events ∧ cntI g.held n ≤ 1 := fun n hn => by
    have a := h2 n (List.mem_append_right _ hn)
    have b := h3 n.toNat (by omega)
    rw [Int.toNat_of_nonneg a.1] at b
    have c := cntI_pos.2 hn
    refine ⟨a, fun hm => ?_, ?_⟩
    · rw [if_pos hm] at b; omega
    · split at b <;> omega
  exact ⟨nodup_cnt fun n hn => (key n hn).2.2, fun n hn => ⟨(key n hn).1, (key n hn).2.1⟩⟩

/-! Freeze and Thaw. -/
def frzR (g : Gr) : Gr × Int × Int :=
  if openErr g ≠ 0 then (zGr, 0, openErr g) else if g.frozen then (zGr, 0, 26) else (⟨g.hist, g.waiting, [], true⟩, g.hist.writes.length, 0)
def thawR (g : Gr) : Gr × List Int × Int :=
  if openErr g ≠ 0 then (zGr, [], openErr g) else if g.frozen = false then (zGr, [], 12)
  else (⟨ackAll g.held g.hist, g.waiting, [], false⟩, g.held, 0)

/-! Issue. -/
end Sx
end
section
open Go
namespace Sx
def fewG (g : Gr) : Bool := fewH g.hist && (decide (g.waiting.length ≤ 50) && decide (g.held.length ≤ 50))
def spFewG (x : GrD) : SpecR := .scalar [x.h.s.Is Int ∧ x.h.w.Is Wt ∧ x.h.e.Is Ev ∧ x.wt.Is Int ∧ x.hd.Is Int] (.bool (fewG x.gr))
def spSameG (x : GrD × GrD) : SpecR := .scalar [x.1.Right ∧ x.2.h.s.Is Int ∧ x.2.h.w.Is Wt ∧ x.2.h.e.Is Ev ∧ x.2.wt.Is Int ∧ x.2.hd.Is Int] (.bool (decide (x.1.gr = x.2.gr)))
def needCp (x : D × D) : List Prop := [x.1.Is Int ∧ x.2.Is Int ∧ x.1.len ≤ 1048576 ∧ x.2.len ≤ 1048576]
noncomputable def spCpd (e : TypeId) : OSpec := spOwnI (rdD.two rdD) e needCp fun x => x.1.to Int ++ x.2.to Int
noncomputable def spWo (e : TypeId) : OSpec := spOwnI (rdD.two rdInt) e (fun x => [x.1.Is Int ∧ x.1.len ≤ 1048576]) fun x => withoutI (x.1.to Int) x.2
end Sx
end
section
open Go
namespace Sx
def recHist (h : Hist) (p j : Nat) : Hist := ⟨h.sizes, h.writes.take p, h.events.filter (fun x => !decide (x.write ≥ (p : Int))) ++ (unackN (ackd h.writes.length h.events) j).map (Ev.mk 1)⟩
section
variable {h : Hist} (hc : (checkH h).1 = 0) {p : Nat} (hp : p ≤ h.writes.length)
include hc hp
end
end Sx
end
section
open Go
namespace Sx
noncomputable def spDurR (x : GrD × Int) : SpecR := .data [x.1.Right ∧ x.1.h.e.len ≤ 1000000] fun ds => .tup [grSV ds (durG x.1.gr x.2).1, .dat ((ds 5).like (durG x.1.gr x.2).2.1), .int .i64 (durG x.1.gr x.2).2.2]
noncomputable def spThawR (x : GrD) : SpecR := .data [x.Right ∧ x.h.e.len ≤ 500000 ∧ x.hd.len ≤ 500000] fun ds => .tup [grSV ds (thawG x.gr).1, .dat ((ds 5).like (thawG x.gr).2.1), .int .i64 (thawG x.gr).2.2]
noncomputable def spRecR (x : GrD × D) : SpecR := .data [x.1.Right ∧ x.1.h.e.len ≤ 500000 ∧ x.2.Is Int ∧ x.2.len ≤ 500000] fun ds => .tup [grSV ds (recoverG x.1.gr (x.2.to Int)).1, .dat ((ds 5).like (recoverG x.1.gr (x.2.to Int)).2.1), .int .i64 (recoverG x.1.gr (x.2.to Int)).2.2]
theorem thaw_go {g : Gr} (h : openErr g = 0) (j : Nat) : ackAll (g.held.take j) g.hist = ⟨g.hist.sizes, g.hist.writes, g.hist.events ++ (g.held.take j).map (Ev.mk 1)⟩ := by
  obtain ⟨a, b⟩ := held_free h
  exact (ackAll_go ((openErr_iff g).1 h).1 (a.sublist (List.take_sublist _ _)) fun n hn => b n (List.mem_of_mem_take hn)).1
end Sx
end
section
open Go
namespace Sx
def acksOf (l : List Ev) : List Int := (l.filter fun e => decide (e.kind = 1)).map Ev.write
theorem sizes_len {s : List Int} (h : sizesErr s = 0) : s.length ≤ 8 ∧ ∀ x, x ∈ s → 1 ≤ x ∧ x ≤ 4096 := by
  unfold sizesErr at h
  split at h
  · exact absurd h (by decide)
  · split at h
    · exact absurd h (by decide)
    · rename_i h1 h2
      refine ⟨by omega, fun x hx => ?_⟩
      have h2 : s.any badSize = false := by simpa using h2
      have := List.any_eq_false.1 h2 x hx
      simp only [badSize, Bool.or_eq_true, decide_eq_true_eq, not_or] at this
      omega
structure GrB (g : Gr) : Prop where
  s : g.hist.sizes.length ≤ 8192
  w : g.hist.writes.length ≤ 8192
  e : g.hist.events.length ≤ 8192
  wt : g.waiting.length ≤ 8192
  hd : g.held.length ≤ 8192
  d : ∀ w, w ∈ g.hist.writes → w.data.length ≤ 4096
/-! The acknowledgements. -/
/-! As data. -/
end Sx
end
section
open Go
namespace Sx
def putW (im : List Vol) (w : Wt) : List Vol :=
  im.set w.vol.toNat ⟨(im.getD w.vol.toNat ⟨[]⟩).l.take w.start.toNat ++ w.data ++ (im.getD w.vol.toNat ⟨[]⟩).l.drop (w.start.toNat + w.data.length)⟩
def applyV : Nat → List Wt → List Vol → List Vol × Int × Int
  | _, [], im => (im, 0, 0)
  | i, w :: r, im => if fitsErr (volSizes im) w ≠ 0 then ([], (i : Int), fitsErr (volSizes im) w) else applyV (i + 1) r (putW im w)
def applyI (im : List Vol) (l : List Wt) : List Vol × Int × Int := if sizesErr (volSizes im) ≠ 0 then ([], 0, sizesErr (volSizes im)) else applyV 0 l im
noncomputable def spApplyI (x : D × D) : SpecR := .data [x.1.Is Vol ∧ x.1.len ≤ 1048576 ∧ x.2.Is Wt ∧ x.2.len ≤ 1048576 ∧ ∀ w, w ∈ x.2.to Wt → w.data.length ≤ 1048576] fun ds => .tup [.dat ((ds 0).like (applyI (x.1.to Vol) (x.2.to Wt)).1), .int .i64 (applyI (x.1.to Vol) (x.2.to Wt)).2.1, .int .i64 (applyI (x.1.to Vol) (x.2.to Wt)).2.2]
theorem vs_len (im : List Vol) : (volSizes im).length = im.length := by simp [volSizes]
theorem vs_get (im : List Vol) {v : Nat} (h : v < im.length) : (volSizes im).getD v 0 = ((im.getD v ⟨[]⟩).l.length : Int) := by
  rw [List.getD_eq_getElem?_getD, List.getD_eq_getElem?_getD]
  simp [volSizes, h]
theorem fits_ok {im : List Vol} {w : Wt} (h : fitsErr (volSizes im) w = 0) : 0 ≤ w.vol ∧ w.vol.toNat < im.length ∧ w.data.length ≠ 0 ∧ 0 ≤ w.start ∧ w.start.toNat + w.data.length ≤ (im.getD w.vol.toNat ⟨[]⟩).l.length := by
  unfold fitsErr at h
  split at h
  · exact absurd h (by decide)
  · rename_i h1
    split at h
    · exact absurd h (by decide)
    · rename_i h2
      split at h
      · exact absurd h (by decide)
      · rename_i h3
        rw [vs_len] at h1
        have hv : w.vol.toNat < im.length := by omega
        rw [vs_get im hv] at h3
        exact ⟨by omega, hv, h2, by omega, by omega⟩
theorem putW_sizes {im : List Vol} {w : Wt} (h : fitsErr (volSizes im) w = 0) : volSizes (putW im w) = volSizes im := by
  obtain ⟨h1, h2, h3, h4, h5⟩ := fits_ok h
  unfold putW volSizes
  rw [List.map_set]
  have e : (((im.getD w.vol.toNat ⟨[]⟩).l.take w.start.toNat ++ w.data ++ (im.getD w.vol.toNat ⟨[]⟩).l.drop (w.start.toNat + w.data.length)).length : Int) = (im.map fun v => (v.l.length : Int))[w.vol.toNat]'(by simpa using h2) := by
    have hg : im.getD w.vol.toNat ⟨[]⟩ = im[w.vol.toNat] := by rw [List.getD_eq_getElem?_getD, List.getElem?_eq_getElem h2]; rfl
    rw [hg] at h5 ⊢
    simp only [List.length_append, List.length_take, List.length_drop, List.getElem_map]
    omega
  simp only [e, List.set_getElem_self]
end Sx
end
section
namespace Sx
open Go
theorem applyV_ok : ∀ (l : List Wt) (j : Nat) (im : List Vol), (∀ w, w ∈ l → fitsErr (volSizes im) w = 0) → applyV j l im = (l.foldl putW im, 0, 0)
  | [], _, _, _ => rfl
  | w :: r, j, im, h => by
    have h1 := h w List.mem_cons_self
    unfold applyV
    rw [if_neg (by simp [h1])]
    exact applyV_ok r (j + 1) (putW im w) fun x hx => by rw [putW_sizes h1]; exact h x (List.mem_cons_of_mem _ hx)
theorem volSizes_imgOf {l : List Int} (h : sizesErr l = 0) : volSizes (imgOf l) = l := by
  have hs := sizesErr_ok h
  unfold imgOf volSizes
  rw [if_neg (by simp [h]), List.map_map]
  conv => rhs; rw [← List.map_id l]
  apply List.map_congr_left
  intro n hn
  have := hs.2.2 n hn
  simp only [Function.comp_apply, volOf, List.length_replicate, id_eq]
  omega
def imageH (h : Hist) (set : List Int) : List Vol × Int :=
  if (checkH h).1 ≠ 0 then ([], (checkH h).1)
  else if setH set h.writes.length = false then ([], 2)
  else ((applyI (imgOf h.sizes) (pickW h.writes set)).1, (applyI (imgOf h.sizes) (pickW h.writes set)).2.2)
theorem imageH_e2 {h : Hist} {set : List Int} (h0 : (checkH h).1 = 0) (h2 : setH set h.writes.length = false) : imageH h set = ([], 2) := by
  unfold imageH; rw [if_neg (by simp [h0]), if_pos h2]
noncomputable def spImgH (x : HiD × D) : SpecR := .data [x.1.Right ∧ x.2.Is Int ∧ x.2.len ≤ 1048576] fun ds => .tup [.dat ((ds 0).like (imageH x.1.hist (x.2.to Int)).1), .int .i64 (imageH x.1.hist (x.2.to Int)).2]
theorem imageH_ok {h : Hist} {set : List Int} (h0 : (checkH h).1 = 0) (h2 : setH set h.writes.length = true) : imageH h set = ((pickW h.writes set).foldl putW (imgOf h.sizes), 0) := by
  obtain ⟨k1, k2, k3, k4, k5⟩ := checkH_iff.1 h0
  unfold imageH
  rw [if_neg (by simp [h0]), if_neg (by simp [h2])]
  have e := volSizes_imgOf k1
  unfold applyI
  rw [if_neg (by rw [e]; simp [k1]), applyV_ok _ 0 _ fun w hw => by rw [e]; exact k3 w (pickW_mem (setH_iff.1 h2).2 hw)]
def spSameI (x : D × D) : SpecR := .scalar [x.1.Is Vol ∧ x.2.Is Vol ∧ x.1.len ≤ 1048576 ∧ x.2.len ≤ 1048576 ∧ (∀ v, v ∈ x.1.to Vol → v.l.length ≤ 1048576) ∧ (∀ v, v ∈ x.2.to Vol → v.l.length ≤ 1048576)] (.bool (decide (x.1.to Vol = x.2.to Vol)))
def spSameV (x : D × D) : SpecR := .scalar [x.1.Is Sec ∧ x.2.Is Sec ∧ x.1.len ≤ 1048576 ∧ x.2.len ≤ 1048576] (.bool (decide (x.1.to Sec = x.2.to Sec)))
end Sx
end
section
open Go Go.Proofs Sx
namespace Go.Proofs.Ytdiekahpofifeaa
set_option maxRecDepth 100000
set_option maxHeartbeats 0
noncomputable def smvL (a b : D) (j : Int) : Conf := Conf.mk (SFrm.mk 65 none none [Item.inLoop (cAt Try.prog 65 [1, 1, 0, 1, 0, 0]), Item.inBlock 0, Item.code (cAt Try.prog 65 [1, 1, 1])]
 (mkJ 0 [(0, .dat a), (1, .dat b), (5, .int .i64 j)] 0 26)) [] []
noncomputable def smiL (a b : D) (j : Int) : Conf := Conf.mk (SFrm.mk 29 none none [Item.inLoop (cAt Try.prog 29 [1, 1, 0, 1, 0, 0]), Item.inBlock 0, Item.code (cAt Try.prog 29 [1, 1, 1])]
 (mkJ 0 [(0, .dat a), (1, .dat b), (5, .int .i64 j)] 0 27)) [] []
noncomputable def ctSmV : Ctrs := [(65, ctrOf ((rdD.two rdD).sp spSameV))]
section
variable (a b : D) (j : Int)
theorem smv_in : exec Try.prog [] 300 (entry Try.prog 65 [.dat a, .dat b]) =
 Tree.br ((↑(D.len a) : Int) != (↑(D.len b) : Int)) (.ret (.lb false))
 (.leaf
 (Conf.mk
 (SFrm.mk 65 none none
 [Item.inLoop (cAt Try.prog 65 [1, 1, 0, 1, 0, 0]), Item.inBlock 0, Item.code (cAt Try.prog 65 [1, 1, 1])]
 (mkJ 0 [(0, .dat a), (1, .dat b), (5, .int .i64 0)] 0 26))
 [] [])) := by kernel_rfl

theorem smv_go : exec Try.prog [] 200 (unroll (smvL a b j)) =
 Tree.br (decide (j < (↑(D.len a) : Int)))
 (.all fun hs =>
 .need (0 ≤ j ∧ j < (↑(D.len a) : Int) ∧ D.sz a = 8)
 (.need
 (D.HasCells a (Int.toNat j) 0
 [FT.int .u8, FT.int .u8, FT.int .u8, FT.int .u8, FT.int .u8,
 FT.int .u8, FT.int .u8, FT.int .u8])
 (.need (0 ≤ j ∧ j < (↑(D.len b) : Int) ∧ D.sz b = 8)
 (.need
 (D.HasCells b (Int.toNat j) 0
 [FT.int .u8, FT.int .u8, FT.int .u8, FT.int .u8, FT.int .u8,
 FT.int .u8, FT.int .u8, FT.int .u8])
 (.br
 (!(decide (D.getInt a (Int.toNat j) 0 = D.getInt b (Int.toNat j) 0) &&
 (decide (D.getInt a (Int.toNat j) 1 = D.getInt b (Int.toNat j) 1) &&
 (decide (D.getInt a (Int.toNat j) 2 = D.getInt b (Int.toNat j) 2) &&
 (decide (D.getInt a (Int.toNat j) 3 = D.getInt b (Int.toNat j) 3) &&
 (decide (D.getInt a (Int.toNat j) 4 = D.getInt b (Int.toNat j) 4) &&
 (decide (D.getInt a (Int.toNat j) 5 = D.getInt b (Int.toNat j) 5) &&
 (decide (D.getInt a (Int.toNat j) 6 = D.getInt b (Int.toNat j) 6) &&
 (decide (D.getInt a (Int.toNat j) 7 = D.getInt b (Int.toNat j) 7) && true)))))))))
 (.ret (.lb false))
 (.leaf
 (Conf.mk
 (SFrm.mk 65 none none
 [Item.inLoop (cAt Try.prog 65 [1, 1, 0, 1, 0, 0]), Item.inBlock 0,
 Item.code (cAt Try.prog 65 [1, 1, 1])]
 (mkJ 0 [(0, .dat a), (1, .dat b), (5, .int .i64 (IntKind.wrap .i64 (j + 1)))] 0
 26))
 [] [])))))))
 (.ret (.lb true)) := by kernel_rfl

theorem smi_in : exec Try.prog ctSmV 300 (entry Try.prog 29 [.dat a, .dat b]) =
 Tree.br ((↑(D.len a) : Int) != (↑(D.len b) : Int)) (.ret (.lb false))
 (.leaf
 (Conf.mk
 (SFrm.mk 29 none none
 [Item.inLoop (cAt Try.prog 29 [1, 1, 0, 1, 0, 0]), Item.inBlock 0, Item.code (cAt Try.prog 29 [1, 1, 1])]
 (mkJ 0 [(0, .dat a), (1, .dat b), (5, .int .i64 0)] 0 27))
 [] [])) := by kernel_rfl

theorem smi_go : exec Try.prog ctSmV 200 (unroll (smiL a b j)) =
 Tree.br (decide (j < (↑(D.len a) : Int)))
 (.all fun hs =>
 .need (0 ≤ j ∧ j < (↑(D.len a) : Int) ∧ D.sz a = 1)
 (.need (D.HasCell a (Int.toNat j) 0 FT.slc)
 (.need (0 ≤ j ∧ j < (↑(D.len b) : Int) ∧ D.sz b = 1)
 (.need (D.HasCell b (Int.toNat j) 0 FT.slc)
 (.need
 (D.Is Sec (D.cell a (Int.toNat j) 0) ∧
 D.Is Sec (D.cell b (Int.toNat j) 0) ∧
 D.len (D.cell a (Int.toNat j) 0) ≤ 1048576 ∧ D.len (D.cell b (Int.toNat j) 0) ≤ 1048576)
 (.br (!decide (D.to Sec (D.cell a (Int.toNat j) 0) = D.to Sec (D.cell b (Int.toNat j) 0)))
 (.ret (.lb false))
 (.leaf
 (Conf.mk
 (SFrm.mk 29 none none
 [Item.inLoop (cAt Try.prog 29 [1, 1, 0, 1, 0, 0]), Item.inBlock 0,
 Item.code (cAt Try.prog 29 [1, 1, 1])]
 (mkJ 0 [(0, .dat a), (1, .dat b), (5, .int .i64 (IntKind.wrap .i64 (j + 1)))]
 0 27))
 [] []))))))))
 (.ret (.lb true)) := by kernel_rfl

end
end Go.Proofs.Ytdiekahpofifeaa
end
section
open Go Go.Proofs Sx
namespace Go.Proofs.Ytdiekahpofifeaa
set_option maxRecDepth 100000
theorem lawSmV : Law Try.prog 65 ((rdD.two rdD).sp spSameV) := by
  refine law_in _ (by kernel_rfl) fun H w ⟨a, b⟩ hok hp => ?_
  obtain ⟨ha, hb, hlen, _⟩ := hp _ (List.mem_singleton.2 rfl)
  simp only at ha hb hlen
  have hla := D.Is.length (α := Sec) a
  have hlb := D.Is.length (α := Sec) b
  apply exec_sound (noCtr _) 300
  rw [show (rdD.two rdD).canon (a, b) = [.dat a, .dat b] from rfl, smv_in]
  refine ⟨fun hc => ret_lb ?_, fun hc => ?_⟩
  · exact same_not fun he => by simp [hla, hlb, he] at hc
  have hc' : (a.to Sec).length = (b.to Sec).length := by simp [hla, hlb] at hc; omega
  refine runs_loop (fun j : Nat => smvL a b j) (fun j => j ≤ (a.to Sec).length ∧ (a.to Sec).take j = (b.to Sec).take j) (fun j => (a.to Sec).length - j) (fun _ => rfl) ?_ 0 ⟨Nat.zero_le _, rfl⟩
  intro j ⟨hj, hpre⟩ ih
  apply exec_sound (noCtr _) 200
  rw [smv_go]
  refine ⟨fun hc hs => ?_, fun hc => ret_lb ?_⟩
  · have hc : j < (a.to Sec).length := by have := of_decide_eq_true hc; omega
    obtain ⟨c1, c2⟩ := sec_cell ha hc
    obtain ⟨e1, e2⟩ := sec_cell hb (hc' ▸ hc)
    refine ⟨⟨by omega, by omega, ha.size hc⟩, c1, ⟨by omega, by omega, hb.size (hc' ▸ hc)⟩, e1, fun h => ret_lb ?_, fun h => ?_⟩
    · refine same_not fun he => ?_
      have he2 : (a.to Sec)[j] = (b.to Sec)[j]'(hc' ▸ hc) := by simp only [he]
      rw [c2, e2] at he2
      simp only [Sec.mk.injEq] at he2
      simp [he2] at h
    · have hx : (a.to Sec)[j] = (b.to Sec)[j]'(hc' ▸ hc) := by
        rw [c2, e2]
        simp only [Int.toNat_natCast, Bool.and_true, Bool.not_eq_false', Bool.and_eq_true, decide_eq_true_eq] at h
        rw [h.1, h.2.1, h.2.2.1, h.2.2.2.1, h.2.2.2.2.1, h.2.2.2.2.2.1, h.2.2.2.2.2.2.1, h.2.2.2.2.2.2.2]
      have := ih (j + 1) ⟨hc, take_succ_eq hc (hc' ▸ hc) hpre hx⟩ (by omega)
      rw [← wrap_succ hc (by omega)] at this
      exact this
  · have := of_decide_eq_false hc
    exact (decide_eq_true (list_eq_of hc' (by omega) hpre)).symm
theorem ctSmVOk : Ctrs.Ok Try.prog ctSmV := by intro x hx; rw [List.mem_singleton.1 hx]; exact ctrOf_ok lawSmV
theorem lawSameI : Law Try.prog 29 ((rdD.two rdD).sp spSameI) := by
  refine law_in _ (by kernel_rfl) fun H w ⟨a, b⟩ hok hp => ?_
  obtain ⟨ha, hb, hl1, hl2, hv1, hv2⟩ := hp _ (List.mem_singleton.2 rfl)
  simp only at ha hb hl1 hl2 hv1 hv2
  have hla := D.Is.length (α := Vol) a
  have hlb := D.Is.length (α := Vol) b
  apply exec_sound ctSmVOk 300
  rw [show (rdD.two rdD).canon (a, b) = [.dat a, .dat b] from rfl, smi_in]
  refine ⟨fun hc => ret_lb ?_, fun hc => ?_⟩
  · exact same_not fun he => by simp [hla, hlb, he] at hc
  have hc' : (a.to Vol).length = (b.to Vol).length := by simp [hla, hlb] at hc; omega
  refine runs_loop (fun j : Nat => smiL a b j) (fun j => j ≤ (a.to Vol).length ∧ (a.to Vol).take j = (b.to Vol).take j) (fun j => (a.to Vol).length - j) (fun _ => rfl) ?_ 0 ⟨Nat.zero_le _, rfl⟩
  intro j ⟨hj, hpre⟩ ih
  apply exec_sound ctSmVOk 200
  rw [smi_go]
  refine ⟨fun hc => ?_, fun hc => ret_lb ?_⟩
  · have hc : j < (a.to Vol).length := by have := of_decide_eq_true hc; omega
    have hcb : j < (b.to Vol).length := hc' ▸ hc
    obtain ⟨r1, r2, r3⟩ := vol_row ha (v := j) (by omega)
    obtain ⟨s1, s2, s3⟩ := vol_row hb (v := j) (by omega)
    rw [List.getElem?_eq_getElem hc] at r3
    rw [List.getElem?_eq_getElem hcb] at s3
    have r3 := Option.some.inj r3
    have s3 := Option.some.inj s3
    have la := hv1 _ (List.getElem_mem hc)
    have lb := hv2 _ (List.getElem_mem hcb)
    rw [r3] at la
    rw [s3] at lb
    have la2 := D.Is.length (α := Sec) (a.cell j 0)
    have lb2 := D.Is.length (α := Sec) (b.cell j 0)
    have c1 : a.HasCell j 0 .slc := by
      obtain ⟨q1, q2, q3, q4, _⟩ := r2
      exact ⟨q1, q2, q3, by simp only [D.cellAt, r1, Option.bind_some, List.getElem?_cons_zero, ← q4]⟩
    have c2 : b.HasCell j 0 .slc := by
      obtain ⟨q1, q2, q3, q4, _⟩ := s2
      exact ⟨q1, q2, q3, by simp only [D.cellAt, s1, Option.bind_some, List.getElem?_cons_zero, ← q4]⟩
    simp only [Int.toNat_natCast]
    refine fun hs => ⟨⟨by omega, by omega, ha.size hc⟩, c1, ⟨by omega, by omega, hb.size hcb⟩, c2, ⟨r2, s2, by rw [la2]; exact la, by rw [lb2]; exact lb⟩, fun h => ret_lb ?_, fun h => ?_⟩
    · refine same_not fun he => ?_
      have he2 : (a.to Vol)[j] = (b.to Vol)[j] := by simp only [he]
      rw [r3, s3] at he2
      simp only [Vol.mk.injEq] at he2
      simp [he2] at h
    · have hx : (a.to Vol)[j] = (b.to Vol)[j] := by
        rw [r3, s3]
        simp at h
        rw [h]
      have := ih (j + 1) ⟨hc, take_succ_eq hc hcb hpre hx⟩ (by omega)
      rw [← wrap_succ hc (by omega)] at this
      exact this
  · have := of_decide_eq_false hc
    exact (decide_eq_true (list_eq_of hc' (by omega) hpre)).symm
end Go.Proofs.Ytdiekahpofifeaa
end
section
open Go Go.Proofs Sx
namespace Go.Proofs.Ytdiekahpofifeaa
set_option maxRecDepth 100000
set_option maxHeartbeats 0
noncomputable def soL (d q : D) (j : Int) : Conf := Conf.mk (SFrm.mk 87 none none [Item.inLoop (cAt Try.prog 87 [1, 1, 0, 1, 0, 0]), Item.inBlock 0, Item.code (cAt Try.prog 87 [1, 1, 1])] (mkJ 0 [(0, .dat d), (3, .vec 0), (4, .int .i64 j)] 0 20)) [] [(0, .arr 3 q)]
noncomputable def rnL (d q : D) (j : Int) : Conf := Conf.mk (SFrm.mk 60 none none [Item.inLoop (cAt Try.prog 60 [1, 1, 1, 0, 1, 0, 0]), Item.inBlock 0, Item.code (cAt Try.prog 60 [1, 1, 1, 1])] (mkJ 0 [(0, .dat d), (5, .vec 0), (6, .int .i64 j)] 0 27)) [] [(0, .arr 53 q)]
section
variable (d e f q : D) (v s j : Int)
theorem rnw_in : exec Try.prog [(52, ctrOf (rdD.one.sp spSizes))] 300 (entry Try.prog 60 [.dat d]) =
 Tree.need (D.Is Int d ∧ D.len d ≤ 1048576)
 (.br (sizesErr (D.to Int d) != 0) (.ret (SV.tup [.nils, .int .i64 (sizesErr (D.to Int d))]))
 (.leaf
 (Conf.mk
 (SFrm.mk 60 none none
 [Item.inLoop (cAt Try.prog 60 [1, 1, 1, 0, 1, 0, 0]), Item.inBlock 0,
 Item.code (cAt Try.prog 60 [1, 1, 1, 1])]
 (mkJ 0 [(0, .dat d), (5, .nils), (6, .int .i64 0)] 0 27))
 [] []))) := by kernel_rfl

theorem rnw_go : exec Try.prog [] 300 (unroll (rnL d q j)) =
 Tree.br (decide (j < (↑(D.len d) : Int)))
 (.need (0 ≤ j ∧ j < (↑(D.len d) : Int) ∧ D.sz d = 1)
 (.need (D.HasCell d (Int.toNat j) 0 (FT.int .i64))
 (.need
 (0 ≤ D.getInt d (Int.toNat j) 0 ∧
 D.getInt d (Int.toNat j) 0 = D.getInt d (Int.toNat j) 0 ∧
 (↑8 : Int) * D.getInt d (Int.toNat j) 0 ≤ 281474976710656 ∧
 D.getInt d (Int.toNat j) 0 ≤ 9223372036854775807)
 (.all fun hs =>
 .all fun hs_1 =>
 .need
 (D.sz q = 1 ∧
 D.Fits
 (D.slc (D.hd (hs_1 0 0)) 1
 [[D.slc (D.hd (hs 0 0)) 8
 (List.replicate (Int.toNat (D.getInt d (Int.toNat j) 0))
 [D.int .u8 0, D.int .u8 0, D.int .u8 0, D.int .u8 0,
 D.int .u8 0, D.int .u8 0, D.int .u8 0, D.int .u8 0])]])
 1 ∧
 (D.len q +
 D.len
 (D.slc (D.hd (hs_1 0 0)) 1
 [[D.slc (D.hd (hs 0 0)) 8
 (List.replicate (Int.toNat (D.getInt d (Int.toNat j) 0))
 [D.int .u8 0, D.int .u8 0, D.int .u8 0, D.int .u8 0,
 D.int .u8 0, D.int .u8 0, D.int .u8 0,
 D.int .u8 0])]])) *
 24 ≤
 140737488355328 ∧
 D.len q +
 D.len
 (D.slc (D.hd (hs_1 0 0)) 1
 [[D.slc (D.hd (hs 0 0)) 8
 (List.replicate (Int.toNat (D.getInt d (Int.toNat j) 0))
 [D.int .u8 0, D.int .u8 0, D.int .u8 0, D.int .u8 0,
 D.int .u8 0, D.int .u8 0, D.int .u8 0,
 D.int .u8 0])]]) ≤
 9223372036854775807)
 (.all fun hs_2 =>
 .leaf
 (Conf.mk
 (SFrm.mk 60 none none
 [Item.inLoop (cAt Try.prog 60 [1, 1, 1, 0, 1, 0, 0]), Item.inBlock 0,
 Item.code (cAt Try.prog 60 [1, 1, 1, 1])]
 (mkJ 0 [(0, .dat d), (5, .vec 0), (6, .int .i64 (IntKind.wrap .i64 (j + 1)))]
 0 27))
 []
 [(0,
 OBlk.arr 53
 (D.slc (D.hd (hs_2 0 0)) 1
 (List.append (D.rows q)
 (D.rows
 (D.slc (D.hd (hs_1 0 0)) 1
 [[D.slc (D.hd (hs 0 0)) 8
 (List.replicate (Int.toNat (D.getInt d (Int.toNat j) 0))
 [D.int .u8 0, D.int .u8 0, D.int .u8 0,
 D.int .u8 0, D.int .u8 0, D.int .u8 0,
 D.int .u8 0, D.int .u8 0])]])))))]))))))
 (.ret (SV.tup [.dat q, .int .i64 0])) := by kernel_rfl

theorem rso_in : exec Try.prog [] 300 (entry Try.prog 87 [.dat d]) =
 Tree.leaf
 (Conf.mk
 (SFrm.mk 87 none none
 [Item.inLoop (cAt Try.prog 87 [1, 1, 0, 1, 0, 0]), Item.inBlock 0, Item.code (cAt Try.prog 87 [1, 1, 1])]
 (mkJ 0 [(0, .dat d), (3, .nils), (4, .int .i64 0)] 0 20))
 [] []) := by kernel_rfl

theorem rso_go : exec Try.prog [] 300 (unroll (soL d q j)) =
 Tree.br (decide (j < (↑(D.len d) : Int)))
 (.need (0 ≤ j ∧ j < (↑(D.len d) : Int) ∧ D.sz d = 1)
 (.need (D.HasCell d (Int.toNat j) 0 FT.slc)
 (.all fun hs =>
 .need
 (D.sz q = 1 ∧
 D.Fits (D.slc (D.hd (hs 0 0)) 1 [[D.int .i64 (↑(D.len (D.cell d (Int.toNat j) 0)) : Int)]]) 1 ∧
 (D.len q +
 D.len
 (D.slc (D.hd (hs 0 0)) 1 [[D.int .i64 (↑(D.len (D.cell d (Int.toNat j) 0)) : Int)]])) *
 8 ≤
 140737488355328 ∧
 D.len q +
 D.len (D.slc (D.hd (hs 0 0)) 1 [[D.int .i64 (↑(D.len (D.cell d (Int.toNat j) 0)) : Int)]]) ≤
 9223372036854775807)
 (.all fun hs_1 =>
 .leaf
 (Conf.mk
 (SFrm.mk 87 none none
 [Item.inLoop (cAt Try.prog 87 [1, 1, 0, 1, 0, 0]), Item.inBlock 0,
 Item.code (cAt Try.prog 87 [1, 1, 1])]
 (mkJ 0 [(0, .dat d), (3, .vec 0), (4, .int .i64 (IntKind.wrap .i64 (j + 1)))] 0
 20))
 []
 [(0,
 OBlk.arr 3
 (D.slc (D.hd (hs_1 0 0)) 1
 (List.append (D.rows q)
 (D.rows
 (D.slc (D.hd (hs 0 0)) 1
 [[D.int .i64 (↑(D.len (D.cell d (Int.toNat j) 0)) : Int)]])))))])))))
 (.ret (.dat q)) := by kernel_rfl

theorem rck_in : exec Try.prog [(87, ctrOf (rdD.one.sp spSzs)), (52, ctrOf (rdD.one.sp spSizes))] 300 (entry Try.prog 79 [.dat d]) =
 Tree.need (D.Is Vol d ∧ D.len d ≤ 1048576)
 (.all fun hs =>
 .need
 (D.Is Int (D.like (hs 0 0) (volSizes (D.to Vol d))) ∧ D.len (D.like (hs 0 0) (volSizes (D.to Vol d))) ≤ 1048576)
 (.ret (.int .i64 (sizesErr (D.to Int (D.like (hs 0 0) (volSizes (D.to Vol d)))))))) := by kernel_rfl

theorem rfi_in : exec Try.prog [(79, ctrOf (rdD.one.sp spChkI)), (87, ctrOf (rdD.one.sp spSzs)), (56, ctrOf ((rdD.two rdWt).sp spFitsR))] 300 (entry Try.prog 81 [.dat d, .agg [.int .i64 v, .int .i64 s, .dat e]]) =
 Tree.need (D.Is Vol d ∧ D.len d ≤ 1048576)
 (.br (sizesErr (volSizes (D.to Vol d)) != 0) (.ret (.int .i64 (sizesErr (volSizes (D.to Vol d)))))
 (.all fun hs =>
 .need (D.Is Vol d ∧ D.len d ≤ 1048576)
 (.need
 (D.Is Int (D.like (hs 1 0) (volSizes (D.to Vol d))) ∧
 D.len (D.like (hs 1 0) (volSizes (D.to Vol d))) ≤ 1048576 ∧
 (∀ (n : Int), List.Mem n (D.to Int (D.like (hs 1 0) (volSizes (D.to Vol d)))) → 1 ≤ n ∧ n ≤ 4096) ∧
 WtD.Ok (WtD.mk v s e))
 (.ret
 (.int .i64
 (fitsErr (D.to Int (D.like (hs 1 0) (volSizes (D.to Vol d)))) (WtD.wt (WtD.mk v s e)))))))) := by kernel_rfl

end
end Go.Proofs.Ytdiekahpofifeaa
end
section
open Go Go.Proofs Sx
namespace Sx
end Sx
namespace Go.Proofs.Ytdiekahpofifeaa
set_option maxRecDepth 100000
theorem lawSzOf : Law Try.prog 87 (rdD.one.sp spSzs) := by
  refine law_in _ (by kernel_rfl) fun H w d hok hp => ?_
  obtain ⟨hd, hlen⟩ := hp _ (List.mem_singleton.2 rfl)
  have hl := D.Is.length (α := Vol) d
  apply exec_sound (noCtr _) 300
  rw [show rdD.one.canon d = [.dat d] from rfl, rso_in]
  refine vecIn_to 0 3 1 none 3 (soL d (.slc none 1 []) 0) (by kernel_rfl) ?_
  refine runs_loop (fun p : D × Nat => soL d p.1 p.2) (fun p => p.2 ≤ (d.to Vol).length ∧ p.1.Is Int ∧ p.1.sz = 1 ∧ p.1.to Int = volSizes ((d.to Vol).take p.2)) (fun p => (d.to Vol).length - p.2) (fun _ => rfl) ?_
    (.slc none 1 [], 0) ⟨Nat.zero_le _, is_nil _ _, rfl, rfl⟩
  intro ⟨o, j⟩ ⟨hj, ho, hz, hto⟩ ih
  simp only at hj ho hz hto
  have hol := D.Is.length (α := Int) o
  rw [hto] at hol
  simp only [volSizes, List.length_map, List.length_take] at hol
  apply exec_sound (noCtr _) 300
  rw [rso_go]
  refine ⟨fun hc => ?_, fun hc => ?_⟩
  · simp [hl] at hc
    obtain ⟨c1, c2, c3⟩ := vol_cell hd hc
    refine ⟨⟨by omega, by omega, hd.size hc⟩, c1, fun hs1 => ⟨⟨hz, .inr rfl, by simp only [len_slc, List.length_cons, List.length_nil]; omega, by simp only [len_slc, List.length_cons, List.length_nil]; omega⟩, fun hs3 => ?_⟩⟩
    have hr := rows_app (rows_of ho) (int_one (D.len (D.cell d j 0)))
    obtain ⟨i1, i2⟩ := is_of (h := D.hd (hs3 0 0)) (s := 1) rfl hr
    have := ih (_, j + 1) ⟨hc, i1, rfl, i2.trans (by rw [hto]; unfold volSizes; rw [map_take_snoc _ hc, c3, D.Is.length (α := Sec)])⟩ (by simp only; omega)
    simp only at this
    rw [← wrap_succ hc (by omega)] at this
    exact this
  · simp [hl] at hc
    have : j = (d.to Vol).length := by omega
    subst this
    rw [List.take_length] at hto
    exact ret_one (stands_dat ho hto) rfl
theorem lawNewIR : Law Try.prog 60 (rdD.one.sp spNewI) := by
  refine law_in _ (by kernel_rfl) fun H w d hok hp => ?_
  obtain ⟨hd, hlen⟩ := hp _ (List.mem_singleton.2 rfl)
  have hl := D.Is.length (α := Int) d
  apply exec_sound (cs := [(52, ctrOf (rdD.one.sp spSizes))]) (by intro x hx; rw [List.mem_singleton.1 hx]; exact ctrOf_ok lawSizesR) 300
  rw [show rdD.one.canon d = [.dat d] from rfl, rnw_in]
  refine ⟨⟨hd, hlen⟩, fun h => ?_, fun h => ?_⟩
  · refine ret_oneI stands_nils ?_ rfl
    unfold imgOf
    rw [if_pos (by simpa using h)]
  have h0 : sizesErr (d.to Int) = 0 := by simpa using h
  obtain ⟨s1, s2, s3⟩ := sizesErr_ok h0
  refine vecIn_to 0 53 1 none 5 (rnL d (.slc none 1 []) 0) (by kernel_rfl) ?_
  refine runs_loop (fun p : D × Nat => rnL d p.1 p.2) (fun p => p.2 ≤ (d.to Int).length ∧ p.1.Is Vol ∧ p.1.sz = 1 ∧ p.1.to Vol = ((d.to Int).take p.2).map volOf) (fun p => (d.to Int).length - p.2) (fun _ => rfl) ?_
    (.slc none 1 [], 0) ⟨Nat.zero_le _, is_nil _ _, rfl, rfl⟩
  intro ⟨o, j⟩ ⟨hj, ho, hz, hto⟩ ih
  simp only at hj ho hz hto
  have hol := D.Is.length (α := Vol) o
  rw [hto] at hol
  simp only [List.length_map, List.length_take] at hol
  apply exec_sound (noCtr _) 300
  rw [rnw_go]
  refine ⟨fun hc => ?_, fun hc => ?_⟩
  · simp [hl] at hc
    obtain ⟨c1, c2, c3⟩ := int_at hd hc
    have hb := s3 _ (List.getElem_mem hc)
    rw [c3]
    refine ⟨c1, c2, ⟨by omega, rfl, by omega, by omega⟩, fun hs1 hs2 => ⟨⟨hz, .inr rfl, by simp only [len_slc, List.length_cons, List.length_nil]; omega, by simp only [len_slc, List.length_cons, List.length_nil]; omega⟩, fun hs3 => ?_⟩⟩
    obtain ⟨z1, z2⟩ := zvol_is (D.hd (hs1 0 0)) (d.to Int)[j]
    have hr := rows_app (rows_of ho) (vol_one z1)
    obtain ⟨i1, i2⟩ := is_of (h := D.hd (hs3 0 0)) (s := 1) rfl hr
    have := ih (_, j + 1) ⟨hc, i1, rfl, i2.trans (by rw [hto, map_take_snoc _ hc, z2]; rfl)⟩ (by simp only; omega)
    simp only at this
    rw [← wrap_succ hc (by omega)] at this
    exact this
  · simp [hl] at hc
    have : j = (d.to Int).length := by omega
    subst this
    rw [List.take_length] at hto
    refine ret_oneI (stands_dat ho hto) ?_ h0.symm
    unfold imgOf
    rw [if_neg (by simp [h0])]
theorem lawCkIR : Law Try.prog 79 (rdD.one.sp spChkI) := by
  refine law_in _ (by kernel_rfl) fun H w d hok hp => ?_
  obtain ⟨hd, hlen⟩ := hp _ (List.mem_singleton.2 rfl)
  apply exec_sound (cs := [(87, ctrOf (rdD.one.sp spSzs)), (52, ctrOf (rdD.one.sp spSizes))]) (by
    intro x hx
    rcases List.mem_cons.1 hx with rfl | hx
    · exact ctrOf_ok lawSzOf
    · rw [List.mem_singleton.1 hx]; exact ctrOf_ok lawSizesR) 300
  rw [show rdD.one.canon d = [.dat d] from rfl, rck_in]
  have hl := D.Is.length (α := Vol) d
  refine ⟨⟨hd, hlen⟩, fun hs => ⟨⟨D.like_is _ _, by rw [D.Is.length (α := Int), D.like_to, vs_len]; omega⟩, ret_int ?_⟩⟩
  rw [D.like_to]
theorem lawFitsIR : Law Try.prog 81 ((rdD.two rdWt).sp spFitsI) := by
  refine law_in _ (by kernel_rfl) fun H w ⟨d, v, s, e⟩ hok hp => ?_
  obtain ⟨⟨hd, hlen, hv⟩, hw⟩ := hp _ (List.mem_singleton.2 rfl)
  simp only at hd hlen hv hw
  apply exec_sound (cs := [(79, ctrOf (rdD.one.sp spChkI)), (87, ctrOf (rdD.one.sp spSzs)), (56, ctrOf ((rdD.two rdWt).sp spFitsR))]) (by
    intro x hx
    rcases List.mem_cons.1 hx with rfl | hx
    · exact ctrOf_ok lawCkIR
    rcases List.mem_cons.1 hx with rfl | hx
    · exact ctrOf_ok lawSzOf
    · rw [List.mem_singleton.1 hx]; exact ctrOf_ok lawFitsR) 300
  rw [show (rdD.two rdWt).canon (d, ⟨v, s, e⟩) = [.dat d, .agg [.int .i64 v, .int .i64 s, .dat e]] from rfl, rfi_in]
  have hl := D.Is.length (α := Vol) d
  refine ⟨⟨hd, hlen⟩, fun hc => ret_int ?_, fun hc hs => ⟨⟨hd, hlen⟩, ⟨D.like_is _ _, by rw [D.Is.length (α := Int), D.like_to, vs_len]; omega, fun n hn => ?_, hw⟩, ret_int ?_⟩⟩
  · unfold fitsI; rw [if_pos (by simpa using hc)]
  · have hc : sizesErr (volSizes (d.to Vol)) = 0 := by simpa using hc
    have hn : n ∈ D.to Int (D.like (hs 1 0) (volSizes (d.to Vol))) := hn
    rw [D.like_to] at hn
    exact (sizesErr_ok hc).2.2 n hn
  · have hc : sizesErr (volSizes (d.to Vol)) = 0 := by simpa using hc
    unfold fitsI; rw [if_neg (by simp [hc]), D.like_to]
end Go.Proofs.Ytdiekahpofifeaa
end
section
open Go Go.Proofs Sx
namespace Go.Proofs.Ytdiekahpofifeaa
set_option maxRecDepth 100000
set_option maxHeartbeats 0
noncomputable def rcB (im d : D) (o : SV) (j : Int) : Conf := Conf.mk (SFrm.mk 80 (some (opsAt Try.prog 80 [1, 1, 0, 1, 0, 0, 1, 0, 0, 1], [7, 8, 9])) none [Item.inBlock 1, Item.code (cAt Try.prog 80 [1, 1, 0, 1, 0, 0, 1, 1]), Item.inLoop (cAt Try.prog 80 [1, 1, 0, 1, 0, 0]), Item.inBlock 0, Item.code (cAt Try.prog 80 [1, 1, 1])] (mkJ 0 [(0, .dat im), (3, o), (4, .int .i64 j), (12, o), (18, .dat d)] 0 22)) [] []
section
variable (im d : D) (j : Int) (o : Value)
theorem rcb_go : goM Try.prog [] [] [(80, MidK.append)] 300 (rcB im d (.raw o) j) =
 Tree.all fun hs =>
 .leaf
 (Conf.mk
 (SFrm.mk 80 (some (opsAt Try.prog 80 [1, 1, 0, 1, 0, 0, 1, 0, 0, 1], [8, 9])) none
 [Item.inBlock 1, Item.code (cAt Try.prog 80 [1, 1, 0, 1, 0, 0, 1, 1]),
 Item.inLoop (cAt Try.prog 80 [1, 1, 0, 1, 0, 0]), Item.inBlock 0, Item.code (cAt Try.prog 80 [1, 1, 1])]
 (mkJ 0
 [(0, .dat im), (3, SV.raw o), (4, .int .i64 j), (12, SV.raw o), (18, .dat d), (19, .vec 1019)]
 0 22))
 [] [(1019, OBlk.arr 53 (D.slc (D.hd (hs 0 0)) 1 [[d]]))]) := by kernel_rfl


end
end Go.Proofs.Ytdiekahpofifeaa
end
section
open Go Go.Proofs Sx
namespace Go.Proofs.Ytdiekahpofifeaa
set_option maxRecDepth 100000
set_option maxHeartbeats 0
noncomputable def rcC (im : D) (o : SV) (j : Int) : Conf := Conf.mk (SFrm.mk 80 (some (opsAt Try.prog 80 [1, 1, 0, 1, 0, 0, 1, 0, 0, 1], [9])) none [Item.inBlock 1, Item.code (cAt Try.prog 80 [1, 1, 0, 1, 0, 0, 1, 1]), Item.inLoop (cAt Try.prog 80 [1, 1, 0, 1, 0, 0]), Item.inBlock 0, Item.code (cAt Try.prog 80 [1, 1, 1])] (mkJ 0 [(0, .dat im), (4, .int .i64 j), (20, o)] 0 22)) [] []
noncomputable def rcA (im : D) : Conf := Conf.mk (SFrm.mk 80 none none [Item.code (cAt Try.prog 80 [0]), Item.code (cAt Try.prog 80 [1])] (mkJ 0 [(0, .dat im)] 0 22)) [] []
noncomputable def ctRA : Ctrs := [(79, ctrOf (rdD.one.sp spChkI)), (81, ctrOf ((rdD.two rdWt).sp spFitsI))]
section
variable (im l d : D) (j : Int) (o : Value)
theorem rcc_go : goM Try.prog [] [] [] 300 (rcC im (.raw o) j) =
 Tree.leaf
 (Conf.mk
 (SFrm.mk 80 none none
 [Item.inLoop (cAt Try.prog 80 [1, 1, 0, 1, 0, 0]), Item.inBlock 0, Item.code (cAt Try.prog 80 [1, 1, 1])]
 (mkJ 0 [(0, .dat im), (3, SV.raw o), (4, .int .i64 (IntKind.wrap .i64 (j + 1)))] 0 22))
 [] []) := by kernel_rfl

theorem rca_go : goM Try.prog [] [] [] 300 (rcA im) =
 Tree.leaf
 (Conf.mk
 (SFrm.mk 80 none none
 [Item.inLoop (cAt Try.prog 80 [1, 1, 0, 1, 0, 0]), Item.inBlock 0, Item.code (cAt Try.prog 80 [1, 1, 1])]
 (mkJ 0 [(0, .dat im), (3, .nils), (4, .int .i64 0)] 0 22))
 [] []) := by kernel_rfl

theorem rap_in : goM Try.prog ctRA [(80, 0), (80, 1), (80, 2), (80, 3)] [] 300 (entry Try.prog 61 [.dat im, .dat l]) =
 Tree.need (D.Is Vol im ∧ D.len im ≤ 1048576)
 (.br (sizesErr (volSizes (D.to Vol im)) != 0)
 (.ret (SV.tup [.nils, .int .i64 0, .int .i64 (sizesErr (volSizes (D.to Vol im)))]))
 (.leaf
 (Conf.mk
 (SFrm.mk 80 none none [Item.code (cAt Try.prog 80 [0]), Item.code (cAt Try.prog 80 [1])]
 (mkJ 1 [(0, .dat im)] 0 22))
 [SFrm.mk 61 (some (opsAt Try.prog 61 [1, 1, 0], [2])) (some 18) [Item.code (cAt Try.prog 61 [1, 1, 1])]
 (mkJ 0 [(0, .dat im), (1, .dat l)] 0 70)]
 []))) := by kernel_rfl

end
end Go.Proofs.Ytdiekahpofifeaa
end
section
open Go Go.Proofs Sx
namespace Go.Proofs.Ytdiekahpofifeaa
set_option maxRecDepth 100000
set_option maxHeartbeats 0
noncomputable def rapE (im o l : D) : Conf := Conf.mk (SFrm.mk 61 (some (opsAt Try.prog 61 [1, 1, 0], [2])) none [Item.code (cAt Try.prog 61 [1, 1, 1])] (mkJ 0 [(0, .dat im), (1, .dat l), (18, .dat o)] 0 70)) [] []
section
variable (im o l : D) (j : Int)
theorem rape_go : goM Try.prog [] [] [] 300 (rapE im o l) =
 Tree.leaf
 (Conf.mk
 (SFrm.mk 61 none none
 [Item.inLoop (cAt Try.prog 61 [1, 1, 1, 0, 1, 0, 0]), Item.inBlock 0, Item.code (cAt Try.prog 61 [1, 1, 1, 1])]
 (mkJ 0 [(0, .dat im), (1, .dat l), (8, .dat o), (9, .int .i64 0)] 0 70))
 [] []) := by kernel_rfl

end
end Go.Proofs.Ytdiekahpofifeaa
end
section
open Go Go.Proofs Sx
namespace Go.Proofs.Ytdiekahpofifeaa
set_option maxRecDepth 100000
set_option maxHeartbeats 0
noncomputable def rapL (im o l : D) (j : Int) : Conf := Conf.mk (SFrm.mk 61 none none [Item.inLoop (cAt Try.prog 61 [1, 1, 1, 0, 1, 0, 0]), Item.inBlock 0, Item.code (cAt Try.prog 61 [1, 1, 1, 1])] (mkJ 0 [(0, .dat im), (1, .dat l), (8, .dat o), (9, .int .i64 j)] 0 70)) [] []
section
variable (im o l : D) (j : Int)
theorem rapl_go : goM Try.prog ctRA [] [] 300 (unroll (rapL im o l j)) =
 Tree.br (decide (j < (↑(D.len l) : Int)))
 (.need (0 ≤ j ∧ j < (↑(D.len l) : Int) ∧ D.sz l = 3)
 (.need (D.HasCells l (Int.toNat j) 0 [FT.int .i64, FT.int .i64, FT.slc])
 (.need
 (ImgOk im ∧
 WtD.Ok (WtD.mk (D.getInt l (Int.toNat j) 0) (D.getInt l (Int.toNat j) 1) (D.cell l (Int.toNat j) 2)))
 (.br
 (fitsI (D.to Vol im)
 (WtD.wt (WtD.mk (D.getInt l (Int.toNat j) 0) (D.getInt l (Int.toNat j) 1) (D.cell l (Int.toNat j) 2))) !=
 0)
 (.ret
 (SV.tup
 [.nils, .int .i64 j,
 .int .i64
 (fitsI (D.to Vol im)
 (WtD.wt
 (WtD.mk (D.getInt l (Int.toNat j) 0) (D.getInt l (Int.toNat j) 1) (D.cell l (Int.toNat j) 2))))]))
 (.leaf
 (Conf.mk
 (SFrm.mk 61 none none
 [Item.inLoop (cAt Try.prog 61 [1, 1, 1, 0, 1, 0, 0, 1, 0, 0, 1, 1, 0, 0]), Item.inBlock 2,
 Item.inBlock 1, Item.code (cAt Try.prog 61 [1, 1, 1, 0, 1, 0, 0, 1, 1]),
 Item.inLoop (cAt Try.prog 61 [1, 1, 1, 0, 1, 0, 0]), Item.inBlock 0,
 Item.code (cAt Try.prog 61 [1, 1, 1, 1])]
 (mkJ 0
 [(0, .dat im), (1, .dat l), (8, .dat o), (9, .int .i64 j), (11, .int .i64 0)]
 0 70))
 [] []))))))
 (.ret (SV.tup [.dat o, .int .i64 0, .int .i64 0])) := by kernel_rfl

end
end Go.Proofs.Ytdiekahpofifeaa
end
section
open Go Go.Proofs Sx
namespace Go.Proofs.Ytdiekahpofifeaa
set_option maxRecDepth 100000
set_option maxHeartbeats 0
noncomputable def rapK (im o l : D) (j k : Int) : Conf := Conf.mk (SFrm.mk 61 none none [Item.inLoop (cAt Try.prog 61 [1, 1, 1, 0, 1, 0, 0, 1, 0, 0, 1, 1, 0, 0]), Item.inBlock 2, Item.inBlock 1, Item.code (cAt Try.prog 61 [1, 1, 1, 0, 1, 0, 0, 1, 1]), Item.inLoop (cAt Try.prog 61 [1, 1, 1, 0, 1, 0, 0]), Item.inBlock 0, Item.code (cAt Try.prog 61 [1, 1, 1, 1])] (mkJ 0 [(0, .dat im), (1, .dat l), (8, .dat o), (9, .int .i64 j), (11, .int .i64 k)] 0 70)) [] []
section
variable (im o l : D) (j k : Int)
theorem rapk_go : goM Try.prog ctRA [] [(61, MidK.store)] 300 (unroll (rapK im o l j k)) =
 Tree.need (0 ≤ j ∧ j < (↑(D.len l) : Int) ∧ D.sz l = 3)
 (.need (D.HasCell l (Int.toNat j) 2 FT.slc)
 (.br (decide (k < (↑(D.len (D.cell l (Int.toNat j) 2)) : Int)))
 (.all fun hs =>
 .need (0 ≤ j ∧ j < (↑(D.len l) : Int) ∧ D.sz l = 3)
 (.need (D.HasCell l (Int.toNat j) 0 (FT.int .i64))
 (.need (0 ≤ D.getInt l (Int.toNat j) 0 ∧ D.getInt l (Int.toNat j) 0 < (↑(D.len o) : Int) ∧ D.sz o = 1)
 (.need (D.HasCell o (Int.toNat (D.getInt l (Int.toNat j) 0)) 0 FT.slc)
 (.need (0 ≤ j ∧ j < (↑(D.len l) : Int) ∧ D.sz l = 3)
 (.need (D.HasCell l (Int.toNat j) 1 (FT.int .i64))
 (.need (0 ≤ j ∧ j < (↑(D.len l) : Int) ∧ D.sz l = 3)
 (.need (D.HasCell l (Int.toNat j) 2 FT.slc)
 (.need
 (0 ≤ k ∧
 k < (↑(D.len (D.cell l (Int.toNat j) 2)) : Int) ∧ D.sz (D.cell l (Int.toNat j) 2) = 8)
 (.need
 (D.HasCells (D.cell l (Int.toNat j) 2) (Int.toNat k) 0
 [FT.int .u8, FT.int .u8, FT.int .u8, FT.int .u8,
 FT.int .u8, FT.int .u8, FT.int .u8, FT.int .u8])
 (.need
 (0 ≤ IntKind.wrap .i64 (D.getInt l (Int.toNat j) 1 + k) ∧
 IntKind.wrap .i64 (D.getInt l (Int.toNat j) 1 + k) <
 (↑(D.len (D.cell o (Int.toNat (D.getInt l (Int.toNat j) 0)) 0)) : Int) ∧
 D.sz (D.cell o (Int.toNat (D.getInt l (Int.toNat j) 0)) 0) = 8)
 (.leaf
 (Conf.mk
 (SFrm.mk 61
 (some (opsAt Try.prog 61 [1, 1, 1, 0, 1, 0, 0, 1, 0, 0, 1, 1, 0, 0, 1, 0, 0], [24]))
 none
 [Item.inBlock 3,
 Item.code (cAt Try.prog 61 [1, 1, 1, 0, 1, 0, 0, 1, 0, 0, 1, 1, 0, 0, 1, 1]),
 Item.inLoop (cAt Try.prog 61 [1, 1, 1, 0, 1, 0, 0, 1, 0, 0, 1, 1, 0, 0]),
 Item.inBlock 2, Item.inBlock 1,
 Item.code (cAt Try.prog 61 [1, 1, 1, 0, 1, 0, 0, 1, 1]),
 Item.inLoop (cAt Try.prog 61 [1, 1, 1, 0, 1, 0, 0]), Item.inBlock 0,
 Item.code (cAt Try.prog 61 [1, 1, 1, 1])]
 (mkJ 0
 [(0, .dat im), (1, .dat l), (8, .dat o), (9, .int .i64 j),
 (11, .int .i64 k), (35, .int .i64 k), (36, .dat l),
 (37, .int .i64 j), (38, SV.elt l (Int.toNat j) 0),
 (39, SV.elt l (Int.toNat j) 2), (40, .dat (D.cell l (Int.toNat j) 2)),
 (41, .int .i64 (↑(D.len (D.cell l (Int.toNat j) 2)) : Int)),
 (42, .bool (decide (k < (↑(D.len (D.cell l (Int.toNat j) 2)) : Int)))),
 (45, .dat o), (46, .dat l), (47, .int .i64 j),
 (48, SV.elt l (Int.toNat j) 0), (49, SV.elt l (Int.toNat j) 0),
 (50, .int .i64 (D.getInt l (Int.toNat j) 0)),
 (51, SV.elt o (Int.toNat (D.getInt l (Int.toNat j) 0)) 0),
 (52, .dat (D.cell o (Int.toNat (D.getInt l (Int.toNat j) 0)) 0)),
 (53, .dat l), (54, .int .i64 j), (55, SV.elt l (Int.toNat j) 0),
 (56, SV.elt l (Int.toNat j) 1),
 (57, .int .i64 (D.getInt l (Int.toNat j) 1)),
 (58, .int .i64 k),
 (59,
 .int .i64
 (IntKind.wrap .i64 (D.getInt l (Int.toNat j) 1 + k))),
 (60, .dat l), (61, .int .i64 j), (62, SV.elt l (Int.toNat j) 0),
 (63, SV.elt l (Int.toNat j) 2), (64, .dat (D.cell l (Int.toNat j) 2)),
 (65, .int .i64 k),
 (66, SV.elt (D.cell l (Int.toNat j) 2) (Int.toNat k) 0),
 (67,
 .agg
 [.int .u8 (D.getInt (D.cell l (Int.toNat j) 2) (Int.toNat k) 0),
 .int .u8 (D.getInt (D.cell l (Int.toNat j) 2) (Int.toNat k) 1),
 .int .u8 (D.getInt (D.cell l (Int.toNat j) 2) (Int.toNat k) 2),
 .int .u8 (D.getInt (D.cell l (Int.toNat j) 2) (Int.toNat k) 3),
 .int .u8 (D.getInt (D.cell l (Int.toNat j) 2) (Int.toNat k) 4),
 .int .u8 (D.getInt (D.cell l (Int.toNat j) 2) (Int.toNat k) 5),
 .int .u8 (D.getInt (D.cell l (Int.toNat j) 2) (Int.toNat k) 6),
 .int .u8 (D.getInt (D.cell l (Int.toNat j) 2) (Int.toNat k) 7)]),
 (68,
 SV.elt (D.cell o (Int.toNat (D.getInt l (Int.toNat j) 0)) 0)
 (Int.toNat (IntKind.wrap .i64 (D.getInt l (Int.toNat j) 1 + k))) 0)]
 0 70))
 [] [])))))))))))))
 (.leaf
 (Conf.mk
 (SFrm.mk 61 none none
 [Item.inLoop (cAt Try.prog 61 [1, 1, 1, 0, 1, 0, 0]), Item.inBlock 0,
 Item.code (cAt Try.prog 61 [1, 1, 1, 1])]
 (mkJ 0
 [(0, .dat im), (1, .dat l), (8, .dat o), (9, .int .i64 (IntKind.wrap .i64 (j + 1)))]
 0 70))
 [] [])))) := by kernel_rfl

end
end Go.Proofs.Ytdiekahpofifeaa
end
section
open Go Go.Proofs Sx
namespace Go.Proofs.Ytdiekahpofifeaa
set_option maxRecDepth 100000
set_option maxHeartbeats 0
noncomputable def rapS (im o l : D) (j k : Int) : Conf := Conf.mk (SFrm.mk 61 (some (opsAt Try.prog 61 [1, 1, 1, 0, 1, 0, 0, 1, 0, 0, 1, 1, 0, 0, 1, 0, 0], [])) none [Item.inBlock 3, Item.code (cAt Try.prog 61 [1, 1, 1, 0, 1, 0, 0, 1, 0, 0, 1, 1, 0, 0, 1, 1]), Item.inLoop (cAt Try.prog 61 [1, 1, 1, 0, 1, 0, 0, 1, 0, 0, 1, 1, 0, 0]), Item.inBlock 2, Item.inBlock 1, Item.code (cAt Try.prog 61 [1, 1, 1, 0, 1, 0, 0, 1, 1]), Item.inLoop (cAt Try.prog 61 [1, 1, 1, 0, 1, 0, 0]), Item.inBlock 0, Item.code (cAt Try.prog 61 [1, 1, 1, 1])] (mkJ 0 [(0, .dat im), (1, .dat l), (8, .dat o), (9, .int .i64 j), (11, .int .i64 k)] 0 70)) [] []
section
variable (im o l : D) (j k : Int)
theorem raps_go : goM Try.prog ctRA [] [] 300 (rapS im o l j k) =
 Tree.leaf
 (Conf.mk
 (SFrm.mk 61 none none
 [Item.inLoop (cAt Try.prog 61 [1, 1, 1, 0, 1, 0, 0, 1, 0, 0, 1, 1, 0, 0]), Item.inBlock 2, Item.inBlock 1,
 Item.code (cAt Try.prog 61 [1, 1, 1, 0, 1, 0, 0, 1, 1]), Item.inLoop (cAt Try.prog 61 [1, 1, 1, 0, 1, 0, 0]),
 Item.inBlock 0, Item.code (cAt Try.prog 61 [1, 1, 1, 1])]
 (mkJ 0
 [(0, .dat im), (1, .dat l), (8, .dat o), (9, .int .i64 j),
 (11, .int .i64 (IntKind.wrap .i64 (k + 1)))]
 0 70))
 [] []) := by kernel_rfl

end
end Go.Proofs.Ytdiekahpofifeaa
end
section
open Go Go.Proofs Sx
namespace Go.Proofs.Ytdiekahpofifeaa
set_option maxRecDepth 100000
set_option maxHeartbeats 0
noncomputable def cpA (im : D) : Conf := Conf.mk (SFrm.mk 77 none none [Item.code (cAt Try.prog 77 [0]), Item.code (cAt Try.prog 77 [1])] (mkJ 0 [(0, .dat im)] 0 5)) [] []
noncomputable def cpB (o : SV) : Conf := Conf.mk (SFrm.mk 77 (some (opsAt Try.prog 77 [1, 0], [2])) none [Item.code (cAt Try.prog 77 [1, 1])] (mkJ 0 [(4, o)] 0 5)) [] []
noncomputable def apE (o l : D) : Conf := Conf.mk (SFrm.mk 59 (some (opsAt Try.prog 59 [1, 1, 0], [2])) none [Item.code (cAt Try.prog 59 [1, 1, 1])] (mkJ 0 [(1, .dat l), (18, .dat o)] 0 46)) [] []
section
variable (im o l : D) (j : Int) (v : Value)
theorem cpa_go : goM Try.prog [] [] [] 300 (cpA im) =
 Tree.need
 ((0 : Int) ≤ 0 ∧
 0 ≤ (↑(D.len im) : Int) ∧
 (↑24 : Int) * (↑(D.len im) : Int) ≤ 281474976710656 ∧ (↑(D.len im) : Int) ≤ 9223372036854775807)
 (.all fun hs =>
 .leaf
 (Conf.mk
 (SFrm.mk 86 none none
 [Item.inLoop (cAt Try.prog 86 [1, 1, 0, 1, 0, 0]), Item.inBlock 0, Item.code (cAt Try.prog 86 [1, 1, 1])]
 (mkJ 1
 [(1, SV.fn 67 [] []), (5, .vec 0), (11, .dat im), (12, .int .i64 (↑(D.len im) : Int)),
 (13, .int .i64 0)]
 0 25))
 [SFrm.mk 77 (some (opsAt Try.prog 77 [1, 0], [2])) (some 4) [Item.code (cAt Try.prog 77 [1, 1])]
 (mkJ 0 [(0, .dat im), (2, .nils), (3, .dat im)] 0 5)]
 [(0, OBlk.arr 53 (D.slc (D.hd (hs 0 0)) 1 (List.replicate 0 [D.slc none 0 []])))])) := by kernel_rfl

theorem cpb_go : goM Try.prog [] [] [] 300 (cpB (.raw v)) =
 Tree.ret (SV.raw v) := by kernel_rfl

theorem ape_go : goM Try.prog [] [] [] 300 (apE o l) =
 Tree.leaf
 (Conf.mk
 (SFrm.mk 59 none none
 [Item.inLoop (cAt Try.prog 59 [1, 1, 1, 0, 1, 0, 0]), Item.inBlock 0, Item.code (cAt Try.prog 59 [1, 1, 1, 1])]
 (mkJ 0 [(8, .dat o), (19, .dat l), (20, .int .i64 (↑(D.len l) : Int)), (21, .int .i64 0)] 0
 46))
 [] []) := by kernel_rfl

end
end Go.Proofs.Ytdiekahpofifeaa
end
section
open Go Go.Proofs Sx
namespace Go.Proofs.Ytdiekahpofifeaa
set_option maxRecDepth 100000
set_option maxHeartbeats 0
noncomputable def apB (o l : D) (j : Int) : Conf := Conf.mk (SFrm.mk 59 (some (opsAt Try.prog 59 [1, 1, 1, 0, 1, 0, 0, 1, 1, 0, 0, 1, 1], [])) none [Item.inBlock 1, Item.code (cAt Try.prog 59 [1, 1, 1, 0, 1, 0, 0, 1, 1, 1]), Item.inLoop (cAt Try.prog 59 [1, 1, 1, 0, 1, 0, 0]), Item.inBlock 0, Item.code (cAt Try.prog 59 [1, 1, 1, 1])] (mkJ 0 [(8, .dat o), (19, .dat l), (20, .int .i64 (l.len : Int)), (21, .int .i64 j)] 0 46)) [] []
section
variable (o l : D) (j : Int)
theorem apb_go : goM Try.prog ctAp [] [] 300 (apB o l j) =
 Tree.leaf
 (Conf.mk
 (SFrm.mk 59 none none
 [Item.inLoop (cAt Try.prog 59 [1, 1, 1, 0, 1, 0, 0]), Item.inBlock 0, Item.code (cAt Try.prog 59 [1, 1, 1, 1])]
 (mkJ 0
 [(8, .dat o), (19, .dat l), (20, .int .i64 (↑(D.len l) : Int)),
 (21, .int .i64 (IntKind.wrap .i64 (j + 1)))]
 0 46))
 [] []) := by kernel_rfl

end
end Go.Proofs.Ytdiekahpofifeaa
end
