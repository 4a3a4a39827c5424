/- Layer 21: Collect, walked. -/
import Derived.KernelRfl
import Derived.Test.YtoechplbhbalaaaBrtoSp
import Derived.Test.YtoechplbhbalaaaOrtoLw
set_option linter.all false
section
open Go Go.Proofs Sx
namespace Go.Proofs.Ytoechplbhbalaaa
set_option maxRecDepth 100000
set_option maxHeartbeats 0
noncomputable def msgV (mk mf mto mn mv me : Int) (ml mb : D) : SV := .agg [.int .i64 mk, .int .i64 mf, .int .i64 mto, .int .i64 mn, .int .i64 mv, .int .i64 me, .dat ml, .dat mb]
noncomputable def colM (n r p dl : Int) (v : SV) (ps ss : D) : Mem := [(0, .cells 111 [.int .i64 n, .int .i64 r, .int .i64 p, .int .i64 dl, .vec 2, .vec 3, v]),
 (1, .cells 25 [.int .i64 0, .int .i64 0, .int .i64 0, .int .i64 0, .nils, .nils, .lb false]), (2, .arr 3 ps), (3, .arr 4 ss)]
noncomputable def fr27 : SFrm := SFrm.mk 27 (some (opsAt Try.prog 27 [1, 1, 1, 1, 1, 0], [3])) (some 65) [Item.code (cAt Try.prog 27 [1, 1, 1, 1, 1, 1])] (mkJ 0 [(6, .ptr 1 0), (8, .ptr 0 0)] 0 71)
noncomputable def frzC (n r p dl : Int) (v : SV) (ps ss : D) (mk mf mto mn mv me : Int) (ml mb : D) : Conf := Conf.mk (SFrm.mk 62 none none [Item.code (cAt Try.prog 62 [0]), Item.code (cAt Try.prog 62 [1])]
 (mkJ 1 [(0, .ptr 0 0), (1, msgV mk mf mto mn mv me ml mb)] 0 63)) [fr27] (colM n r p dl v ps ss)
noncomputable def thwC (n r p dl : Int) (v : SV) (ps ss : D) (mk mf mto mn mv me : Int) (ml mb : D) : Conf := Conf.mk (SFrm.mk 63 none none [Item.code (cAt Try.prog 63 [0]), Item.code (cAt Try.prog 63 [1])]
 (mkJ 1 [(0, .ptr 0 0), (1, msgV mk mf mto mn mv me ml mb)] 0 28)) [fr27] (colM n r p dl v ps ss)
noncomputable def fr62 : SFrm := SFrm.mk 62 (some (opsAt Try.prog 62 [1, 1, 1, 0, 0], [4])) (some 45) [Item.code (cAt Try.prog 62 [1, 1, 1, 0, 1]), Item.code (cAt Try.prog 62 [1, 1, 1, 1])] (mkJ 1 [(0, .ptr 0 0)] 0 63)
noncomputable def fr63 : SFrm := SFrm.mk 63 (some (opsAt Try.prog 63 [1, 1, 1, 0, 0], [])) (some 19) [Item.code (cAt Try.prog 63 [1, 1, 1, 0, 1]), Item.code (cAt Try.prog 63 [1, 1, 1, 1])] (mkJ 1 [(0, .ptr 0 0)] 0 28)
noncomputable def fr27b : SFrm := SFrm.mk 27 (some (opsAt Try.prog 27 [1, 1, 1, 1, 1, 0], [3])) (some 65) [Item.code (cAt Try.prog 27 [1, 1, 1, 1, 1, 1])] (mkJ 0 [(6, .ptr 2 0), (8, .ptr 0 0)] 0 71)
noncomputable def seenC (K : SFrm) (n r p dl : Int) (v : SV) (ps ss : D) : Conf := Conf.mk (SFrm.mk 83 none none [Item.code (cAt Try.prog 83 [1, 1, 1, 0, 0]), Item.code (cAt Try.prog 83 [1, 1, 1, 0, 1]), Item.code (cAt Try.prog 83 [1, 1, 1, 1])]
 (mkJ 2 [(0, .ptr 0 0), (5, .ptr 1 0)] 0 38)) [K, fr27b] [(0, .cells 111 [.int .i64 n, .int .i64 r, .int .i64 p, .int .i64 dl, .vec 3, .vec 4, v]), (1, .cells 156 [.int .i64 0, .int .i64 0]),
 (2, .cells 25 [.int .i64 0, .int .i64 0, .int .i64 0, .int .i64 0, .nils, .nils, .lb false]), (3, .arr 3 ps), (4, .arr 4 ss)]
noncomputable def fr62l : SFrm := SFrm.mk 62 (some (opsAt Try.prog 62 [1, 1, 1, 0, 0], [4])) (some 45) [Item.code (cAt Try.prog 62 [1, 1, 1, 0, 1]), Item.code (cAt Try.prog 62 [1, 1, 1, 1])] (mkJ 1 [(0, .ptr 2 0)] 0 63)
noncomputable def fr63l : SFrm := SFrm.mk 63 (some (opsAt Try.prog 63 [1, 1, 1, 0, 0], [])) (some 19) [Item.code (cAt Try.prog 63 [1, 1, 1, 0, 1]), Item.code (cAt Try.prog 63 [1, 1, 1, 1])] (mkJ 1 [(0, .ptr 2 0)] 0 28)
noncomputable def fr27l : SFrm := SFrm.mk 27 (some (opsAt Try.prog 27 [1, 1, 1, 1, 1, 0], [3])) (some 65) [Item.code (cAt Try.prog 27 [1, 1, 1, 1, 1, 1])] (mkJ 0 [(6, .ptr 3 0), (8, .ptr 2 0)] 0 71)
noncomputable def seenL (K : SFrm) (n r p dl : Int) (v : SV) (ps ss : D) (x y j : Int) : Conf := Conf.mk (SFrm.mk 83 none none [Item.inLoop (cAt Try.prog 83 [1, 1, 1, 0, 1, 0, 0]), Item.inBlock 0, Item.code (cAt Try.prog 83 [1, 1, 1, 1])]
 (mkJ 2 [(5, .ptr 0 0), (19, .vec 1), (20, .int .i64 ss.len), (21, .int .i64 j)] 0 38)) [K, fr27l] [(0, .cells 156 [.int .i64 x, .int .i64 y]), (1, .arr 4 ss), (2, .cells 111 [.int .i64 n, .int .i64 r, .int .i64 p, .int .i64 dl, .vec 4, .vec 1, v]),
 (3, .cells 25 [.int .i64 0, .int .i64 0, .int .i64 0, .int .i64 0, .nils, .nils, .lb false]), (4, .arr 3 ps)]
section
variable (x y n j now patience : Int) (a b d s wt hd : D) (frozen : Bool) (mr mp mt mi mu : Int) (mk mf mto mn mv me : Int) (ml mb : D) (nodes round phase deadline : Int) (valid : Bool)
theorem coll1_in : 
 let z1 : Tree := (.ret (SV.tup [.agg [.int .i64 nodes, .int .i64 round, .int .i64 phase, .int .i64 deadline, .dat d, .dat s, .bool valid], .nils]))
 goS Try.prog ctM (fun _ => false) [(62, 3), (63, 3), (83, 15)] 800 (entry Try.prog 27 [.agg [.int .i64 nodes, .int .i64 round, .int .i64 phase, .int .i64 deadline, .dat d, .dat s, .bool valid], .int .i64 now, .agg [.int .i64 mk, .int .i64 mf, .int .i64 mto, .int .i64 mn, .int .i64 mv, .int .i64 me, .dat ml, .dat mb]]) =
 Tree.need (D.Is Int d ∧ D.Is Bool s) (.br (checkCo (CoD.co (CoD.mk nodes round phase deadline d s valid)) != 0) z1 (.br (decide (phase = 0)) z1 (.br (decide (now ≥ deadline)) z1 (.br (decide (mf < 0)) z1
 (.br (decide (mf ≥ nodes)) z1 (.br (mn != round) z1 (.all fun hs => .need (D.Is Int d ∧ D.len d ≤ 1048576) (.need (D.Is Bool s ∧ D.len s ≤ 1048576) (.br (decide (mk = 2)) (.leaf (Conf.mk (SFrm.mk 62 none none [Item.code
 (cAt Try.prog 62 [0]), Item.code (cAt Try.prog 62 [1])] (mkJ 1 [(0, .ptr 0 0), (1, .agg [.int .i64 mk, .int .i64 mf, .int .i64 mto, .int .i64 mn, .int .i64 mv, .int .i64 me, .dat ml, .dat mb])] 0 63)) [SFrm.mk 27
 (some (opsAt Try.prog 27 [1, 1, 1, 1, 1, 0], [3])) (some 65) [Item.code (cAt Try.prog 27 [1, 1, 1, 1, 1, 1])] (mkJ 0 [(6, .ptr 1 0), (8, .ptr 0 0)] 0 71)] [(0, OBlk.cells 111 [.int .i64 nodes, .int .i64 round, .int .i64 phase, .int .i64 deadline, .vec 2, .vec 3, .bool valid]),
 (1, OBlk.cells 25 [.int .i64 0, .int .i64 0, .int .i64 0, .int .i64 0, .nils, .nils, .lb false]), (2, OBlk.arr 3 (D.slc (D.hd (hs 2 0)) 1 (D.rows d))), (3, OBlk.arr 4 (D.slc (D.hd (hs 5 0)) 1 (D.rows s)))]))
 (.br (decide (mk = 4)) (.leaf (Conf.mk (SFrm.mk 63 none none [Item.code (cAt Try.prog 63 [0]), Item.code (cAt Try.prog 63 [1])] (mkJ 1 [(0, .ptr 0 0), (1, .agg [.int .i64 mk, .int .i64 mf, .int .i64 mto, .int .i64 mn, .int .i64 mv, .int .i64 me, .dat ml, .dat mb])] 0 28)) [SFrm.mk 27
 (some (opsAt Try.prog 27 [1, 1, 1, 1, 1, 0], [3])) (some 65) [Item.code (cAt Try.prog 27 [1, 1, 1, 1, 1, 1])] (mkJ 0 [(6, .ptr 1 0), (8, .ptr 0 0)] 0 71)] [(0, OBlk.cells 111 [.int .i64 nodes, .int .i64 round, .int .i64 phase, .int .i64 deadline, .vec 2, .vec 3, .bool valid]),
 (1, OBlk.cells 25 [.int .i64 0, .int .i64 0, .int .i64 0, .int .i64 0, .nils, .nils, .lb false]), (2, OBlk.arr 3 (D.slc (D.hd (hs 2 0)) 1 (D.rows d))), (3, OBlk.arr 4 (D.slc (D.hd (hs 5 0)) 1 (D.rows s)))])) z1)))))))))) := by
 intros; kernel_rfl

theorem frz_go : 
 let z1 : Tree := (.ret (SV.tup [.agg [.int .i64 nodes, .int .i64 round, .int .i64 phase, .int .i64 deadline, .dat d, .dat s, .bool valid], .nils]))
 goS Try.prog ctM (fun _ => false) [(83, 15)] 800 (frzC nodes round phase deadline (.bool valid) d s mk mf mto mn mv me ml mb) =
 Tree.all fun hs => .br (phase != 1) (.need ((phase != 1) = true) (.need ((phase != 1) = true) (.need ((phase != 1) = true) (.need ((phase != 1) = true) z1)))) (.br (decide (mv < 0)) (.need ((phase != 1) = false)
 (.need ((phase != 1) = false) (.need ((phase != 1) = false) (.need ((phase != 1) = false) (.need (decide (mv < 0) = true) (.need (decide (mv < 0) = true) (.need (decide (mv < 0) = true) (.need (decide
 (mv < 0) = true) z1)))))))) (.br (decide (mv > 4096)) (.need ((phase != 1) = false) (.need ((phase != 1) = false) (.need ((phase != 1) = false) (.need ((phase != 1) = false) (.need (decide (mv < 0) = false)
 (.need (decide (mv < 0) = false) (.need (decide (mv < 0) = false) (.need (decide (mv < 0) = false) (.need (decide (mv > 4096) = true) (.need (decide (mv > 4096) = true) (.need (decide (mv > 4096) = true)
 (.need (decide (mv > 4096) = true) (.need (decide (mv > 4096) = true) (.need (decide (mv > 4096) = true) (.need (decide (mv > 4096) = true) (.need (decide (mv > 4096) = true) (.need (decide (mv > 4096) = true)
 (.need (decide (mv > 4096) = true) z1)))))))))))))))))) (.need ((phase != 1) = false) (.need ((phase != 1) = false) (.need ((phase != 1) = false) (.need ((phase != 1) = false) (.need (decide (mv < 0) = false)
 (.need (decide (mv < 0) = false) (.need (decide (mv < 0) = false) (.need (decide (mv < 0) = false) (.need (decide (mv > 4096) = false) (.need (decide (mv > 4096) = false) (.need (decide (mv > 4096) = false)
 (.need (decide (mv > 4096) = false) (.need (decide (mv > 4096) = false) (.need (decide (mv > 4096) = false) (.need (decide (mv > 4096) = false) (.need (decide (mv > 4096) = false) (.need (0 ≤ mf ∧ mf <
 (↑(D.len s) : Int) ∧ D.sz s = 1) (.need (decide (mv > 4096) = false) (.need (D.HasCell s (Int.toNat mf) 0 FT.bool ∧ D.sz s = 1) (.need (decide (mv > 4096) = false) (.br (D.getBool s (Int.toNat mf) 0) z1
 (.all fun hs => .need (0 ≤ mf ∧ mf < (↑(D.len d) : Int) ∧ D.sz d = 1) (.need (Int.toNat mf < D.len d ∧ 1 ≤ D.sz d ∧ D.sz d = 1) (.need (0 ≤ mf ∧ mf < (↑(D.len s) : Int) ∧ D.sz s = 1) (.need (Int.toNat mf < D.len s ∧ 1 ≤ D.sz s ∧ D.sz s = 1)
 (.leaf (Conf.mk (SFrm.mk 83 none none [Item.code (cAt Try.prog 83 [1, 1, 1, 0, 0]), Item.code (cAt Try.prog 83 [1, 1, 1, 0, 1]), Item.code (cAt Try.prog 83 [1, 1, 1, 1])] (mkJ 2 [(0, .ptr 0 0), (5, .ptr 1 0)] 0 38)) [SFrm.mk 62
 (some (opsAt Try.prog 62 [1, 1, 1, 0, 0], [4])) (some 45) [Item.code (cAt Try.prog 62 [1, 1, 1, 0, 1]), Item.code (cAt Try.prog 62 [1, 1, 1, 1])] (mkJ 1 [(0, .ptr 0 0)] 0 63), SFrm.mk 27 (some (opsAt Try.prog 27 [1, 1, 1, 1, 1, 0], [3]))
 (some 65) [Item.code (cAt Try.prog 27 [1, 1, 1, 1, 1, 1])] (mkJ 0 [(6, .ptr 2 0), (8, .ptr 0 0)] 0 71)] [(0, OBlk.cells 111 [.int .i64 nodes, .int .i64 round, .int .i64 phase, .int .i64 deadline, .vec 3, .vec 4, .bool valid]),
 (1, OBlk.cells 156 [.int .i64 0, .int .i64 0]), (2, OBlk.cells 25 [.int .i64 0, .int .i64 0, .int .i64 0, .int .i64 0, .nils, .nils, .lb false]), (3, OBlk.arr 3 (D.setCells d (Int.toNat mf) 0 [D.int .i64 mv])),
 (4, OBlk.arr 4 (D.setCells s (Int.toNat mf) 0 [D.bool true]))]))))))))))))))))))))))))))))) := by
 intros; kernel_rfl

theorem thw_go : goS Try.prog ctM (fun _ => false) [(83, 15)] 800 (thwC nodes round phase deadline (.bool valid) d s mk mf mto mn mv me ml mb) =
 Tree.br (phase != 2)
 (.ret
 (SV.tup
 [.agg
 [.int .i64 nodes, .int .i64 round, .int .i64 phase, .int .i64 deadline,
 .dat d, .dat s, .bool valid],
 .nils]))
 (.br (mv != 1)
 (.need (nodes ≤ 8)
 (.all fun hs =>
 .ret
 (SV.tup
 [.agg
 [.int .i64 nodes, .int .i64 round, .int .i64 0, .int .i64 deadline,
 .dat d, .dat s, .lb false],
 .dat (D.like (hs 0 0) (msgsTo nodes round 24))])))
 (.need (0 ≤ mf ∧ mf < (↑(D.len s) : Int) ∧ D.sz s = 1)
 (.need (Int.toNat mf < D.len s ∧ 1 ≤ D.sz s ∧ D.sz s = 1)
 (.leaf
 (Conf.mk
 (SFrm.mk 83 none none
 [Item.code (cAt Try.prog 83 [1, 1, 1, 0, 0]), Item.code (cAt Try.prog 83 [1, 1, 1, 0, 1]),
 Item.code (cAt Try.prog 83 [1, 1, 1, 1])]
 (mkJ 2 [(0, .ptr 0 0), (5, .ptr 1 0)] 0 38))
 [SFrm.mk 63 (some (opsAt Try.prog 63 [1, 1, 1, 0, 0], [])) (some 19)
 [Item.code (cAt Try.prog 63 [1, 1, 1, 0, 1]), Item.code (cAt Try.prog 63 [1, 1, 1, 1])]
 (mkJ 1 [(0, .ptr 0 0)] 0 28),
 SFrm.mk 27 (some (opsAt Try.prog 27 [1, 1, 1, 1, 1, 0], [3])) (some 65)
 [Item.code (cAt Try.prog 27 [1, 1, 1, 1, 1, 1])] (mkJ 0 [(6, .ptr 2 0), (8, .ptr 0 0)] 0 71)]
 [(0,
 OBlk.cells 111
 [.int .i64 nodes, .int .i64 round, .int .i64 phase,
 .int .i64 deadline, .vec 3, .vec 4, .bool valid]),
 (1, OBlk.cells 156 [.int .i64 0, .int .i64 0]),
 (2,
 OBlk.cells 25
 [.int .i64 0, .int .i64 0, .int .i64 0, .int .i64 0, .nils,
 .nils, .lb false]),
 (3, OBlk.arr 3 d), (4, OBlk.arr 4 (D.setCells s (Int.toNat mf) 0 [D.bool true]))]))))) := by kernel_rfl

theorem sn62_in : goS Try.prog ctM (fun _ => false) [(83, 15)] 800 (seenC fr62 nodes round phase deadline (.bool valid) d s) =
 Tree.leaf
 (Conf.mk
 (SFrm.mk 83 none none
 [Item.inLoop (cAt Try.prog 83 [1, 1, 1, 0, 1, 0, 0]), Item.inBlock 0, Item.code (cAt Try.prog 83 [1, 1, 1, 1])]
 (mkJ 2 [(5, .ptr 0 0), (19, .vec 1), (20, .int .i64 (↑(D.len s) : Int)), (21, .int .i64 0)]
 0 38))
 [SFrm.mk 62 (some (opsAt Try.prog 62 [1, 1, 1, 0, 0], [4])) (some 45)
 [Item.code (cAt Try.prog 62 [1, 1, 1, 0, 1]), Item.code (cAt Try.prog 62 [1, 1, 1, 1])]
 (mkJ 1 [(0, .ptr 2 0)] 0 63),
 SFrm.mk 27 (some (opsAt Try.prog 27 [1, 1, 1, 1, 1, 0], [3])) (some 65)
 [Item.code (cAt Try.prog 27 [1, 1, 1, 1, 1, 1])] (mkJ 0 [(6, .ptr 3 0), (8, .ptr 2 0)] 0 71)]
 [(0, OBlk.cells 156 [.int .i64 0, .int .i64 0]), (1, OBlk.arr 4 s),
 (2,
 OBlk.cells 111
 [.int .i64 nodes, .int .i64 round, .int .i64 phase, .int .i64 deadline,
 .vec 4, .vec 1, .bool valid]),
 (3,
 OBlk.cells 25
 [.int .i64 0, .int .i64 0, .int .i64 0, .int .i64 0, .nils, .nils,
 .lb false]),
 (4, OBlk.arr 3 d)]) := by kernel_rfl

theorem sn63_in : goS Try.prog ctM (fun _ => false) [(83, 15)] 800 (seenC fr63 nodes round phase deadline (.bool valid) d s) =
 Tree.leaf
 (Conf.mk
 (SFrm.mk 83 none none
 [Item.inLoop (cAt Try.prog 83 [1, 1, 1, 0, 1, 0, 0]), Item.inBlock 0, Item.code (cAt Try.prog 83 [1, 1, 1, 1])]
 (mkJ 2 [(5, .ptr 0 0), (19, .vec 1), (20, .int .i64 (↑(D.len s) : Int)), (21, .int .i64 0)]
 0 38))
 [SFrm.mk 63 (some (opsAt Try.prog 63 [1, 1, 1, 0, 0], [])) (some 19)
 [Item.code (cAt Try.prog 63 [1, 1, 1, 0, 1]), Item.code (cAt Try.prog 63 [1, 1, 1, 1])]
 (mkJ 1 [(0, .ptr 2 0)] 0 28),
 SFrm.mk 27 (some (opsAt Try.prog 27 [1, 1, 1, 1, 1, 0], [3])) (some 65)
 [Item.code (cAt Try.prog 27 [1, 1, 1, 1, 1, 1])] (mkJ 0 [(6, .ptr 3 0), (8, .ptr 2 0)] 0 71)]
 [(0, OBlk.cells 156 [.int .i64 0, .int .i64 0]), (1, OBlk.arr 4 s),
 (2,
 OBlk.cells 111
 [.int .i64 nodes, .int .i64 round, .int .i64 phase, .int .i64 deadline,
 .vec 4, .vec 1, .bool valid]),
 (3,
 OBlk.cells 25
 [.int .i64 0, .int .i64 0, .int .i64 0, .int .i64 0, .nils, .nils,
 .lb false]),
 (4, OBlk.arr 3 d)]) := by kernel_rfl

theorem sl62_go : 
 let z1 := (SFrm.mk 83 none none [Item.inLoop (cAt Try.prog 83 [1, 1, 1, 0, 1, 0, 0]), Item.inBlock 0, Item.code (cAt Try.prog 83 [1, 1, 1, 1])] (mkJ 2 [(5, .ptr 0 0), (19, .vec 1), (20, .int .i64 (↑(D.len s) : Int)), (21, .int .i64 (IntKind.wrap .i64 (j + 1)))] 0 38))
 goS Try.prog ctM (fun _ => false) [(83, 15)] 800 (unroll (seenL fr62l nodes round phase deadline (.bool valid) d s x y j)) =
 Tree.br (decide (j < (↑(D.len s) : Int))) (.need (0 ≤ j ∧ j < (↑(D.len s) : Int) ∧ D.sz s = 1) (.need (D.HasCell s (Int.toNat j) 0 FT.bool ∧ D.sz s = 1) (.br (D.getBool s (Int.toNat j) 0) (.need ((0 : Int) ≤ 1 ∧ 1 <
 (↑2 : Int)) (.need ((0 : Int) ≤ 1 ∧ 1 < (↑2 : Int)) (.leaf (Conf.mk z1 [SFrm.mk 62 (some (opsAt Try.prog 62 [1, 1, 1, 0, 0], [4])) (some 45) [Item.code (cAt Try.prog 62 [1, 1, 1, 0, 1]), Item.code (cAt Try.prog 62 [1, 1, 1, 1])]
 (mkJ 1 [(0, .ptr 2 0)] 0 63), SFrm.mk 27 (some (opsAt Try.prog 27 [1, 1, 1, 1, 1, 0], [3])) (some 65) [Item.code (cAt Try.prog 27 [1, 1, 1, 1, 1, 1])] (mkJ 0 [(6, .ptr 3 0), (8, .ptr 2 0)] 0 71)] [(0, OBlk.cells 156 [.int .i64 x, .int .i64
 (IntKind.wrap .i64 (y + 1))]), (1, OBlk.arr 4 s), (2, OBlk.cells 111 [.int .i64 nodes, .int .i64 round, .int .i64 phase, .int .i64 deadline, .vec 4, .vec 1, .bool valid]), (3, OBlk.cells 25 [.int .i64 0, .int .i64 0, .int .i64 0, .int .i64 0, .nils, .nils, .lb false]),
 (4, OBlk.arr 3 d)])))) (.need ((0 : Int) ≤ 0 ∧ 0 < (↑2 : Int)) (.need ((0 : Int) ≤ 0 ∧ 0 < (↑2 : Int)) (.leaf (Conf.mk z1 [SFrm.mk 62 (some (opsAt Try.prog 62 [1, 1, 1, 0, 0], [4])) (some 45) [Item.code
 (cAt Try.prog 62 [1, 1, 1, 0, 1]), Item.code (cAt Try.prog 62 [1, 1, 1, 1])] (mkJ 1 [(0, .ptr 2 0)] 0 63), SFrm.mk 27 (some (opsAt Try.prog 27 [1, 1, 1, 1, 1, 0], [3])) (some 65) [Item.code (cAt Try.prog 27 [1, 1, 1, 1, 1, 1])]
 (mkJ 0 [(6, .ptr 3 0), (8, .ptr 2 0)] 0 71)] [(0, OBlk.cells 156 [.int .i64 (IntKind.wrap .i64 (x + 1)), .int .i64 y]), (1, OBlk.arr 4 s), (2, OBlk.cells 111 [.int .i64 nodes, .int .i64 round, .int .i64 phase, .int .i64 deadline, .vec 4, .vec 1, .bool valid]),
 (3, OBlk.cells 25 [.int .i64 0, .int .i64 0, .int .i64 0, .int .i64 0, .nils, .nils, .lb false]), (4, OBlk.arr 3 d)]))))))) (.need ((0 : Int) ≤ 0 ∧ 0 < (↑2 : Int)) (.br (!decide (x = 0)) (.ret (SV.tup [.agg [.int .i64 nodes, .int .i64 round, .int .i64 phase, .int .i64 deadline, .dat d, .dat s, .bool valid], .nils]))
 (.all fun hs => .need (0 ≤ nodes ∧ nodes = nodes ∧ (↑1 : Int) * nodes ≤ 281474976710656 ∧ nodes ≤ 9223372036854775807) (.need (nodes ≤ 8) (.all fun hs_1 => .ret (SV.tup [.agg [.int .i64 nodes, .int .i64 round, .int .i64 2, .int .i64 deadline, .dat d, .dat
 (D.slc (D.hd (hs 7 0)) 1 (List.replicate (Int.toNat nodes) [D.bool false])), .bool valid], .dat (D.like (hs_1 0 0) (msgsTo nodes round 3))])))))) := by
 intros; kernel_rfl

theorem sl63_go : goS Try.prog ctM (fun _ => false) [(83, 15)] 800 (unroll (seenL fr63l nodes round phase deadline (.bool valid) d s x y j)) =
 Tree.br (decide (j < (↑(D.len s) : Int)))
 (.need (0 ≤ j ∧ j < (↑(D.len s) : Int) ∧ D.sz s = 1)
 (.need (D.HasCell s (Int.toNat j) 0 FT.bool ∧ D.sz s = 1)
 (.br (D.getBool s (Int.toNat j) 0)
 (.need ((0 : Int) ≤ 1 ∧ 1 < (↑2 : Int))
 (.need ((0 : Int) ≤ 1 ∧ 1 < (↑2 : Int))
 (.leaf
 (Conf.mk
 (SFrm.mk 83 none none
 [Item.inLoop (cAt Try.prog 83 [1, 1, 1, 0, 1, 0, 0]), Item.inBlock 0,
 Item.code (cAt Try.prog 83 [1, 1, 1, 1])]
 (mkJ 2
 [(5, .ptr 0 0), (19, .vec 1), (20, .int .i64 (↑(D.len s) : Int)),
 (21, .int .i64 (IntKind.wrap .i64 (j + 1)))]
 0 38))
 [SFrm.mk 63 (some (opsAt Try.prog 63 [1, 1, 1, 0, 0], [])) (some 19)
 [Item.code (cAt Try.prog 63 [1, 1, 1, 0, 1]), Item.code (cAt Try.prog 63 [1, 1, 1, 1])]
 (mkJ 1 [(0, .ptr 2 0)] 0 28),
 SFrm.mk 27 (some (opsAt Try.prog 27 [1, 1, 1, 1, 1, 0], [3])) (some 65)
 [Item.code (cAt Try.prog 27 [1, 1, 1, 1, 1, 1])] (mkJ 0 [(6, .ptr 3 0), (8, .ptr 2 0)] 0 71)]
 [(0, OBlk.cells 156 [.int .i64 x, .int .i64 (IntKind.wrap .i64 (y + 1))]),
 (1, OBlk.arr 4 s),
 (2,
 OBlk.cells 111
 [.int .i64 nodes, .int .i64 round, .int .i64 phase,
 .int .i64 deadline, .vec 4, .vec 1, .bool valid]),
 (3,
 OBlk.cells 25
 [.int .i64 0, .int .i64 0, .int .i64 0, .int .i64 0, .nils,
 .nils, .lb false]),
 (4, OBlk.arr 3 d)]))))
 (.need ((0 : Int) ≤ 0 ∧ 0 < (↑2 : Int))
 (.need ((0 : Int) ≤ 0 ∧ 0 < (↑2 : Int))
 (.leaf
 (Conf.mk
 (SFrm.mk 83 none none
 [Item.inLoop (cAt Try.prog 83 [1, 1, 1, 0, 1, 0, 0]), Item.inBlock 0,
 Item.code (cAt Try.prog 83 [1, 1, 1, 1])]
 (mkJ 2
 [(5, .ptr 0 0), (19, .vec 1), (20, .int .i64 (↑(D.len s) : Int)),
 (21, .int .i64 (IntKind.wrap .i64 (j + 1)))]
 0 38))
 [SFrm.mk 63 (some (opsAt Try.prog 63 [1, 1, 1, 0, 0], [])) (some 19)
 [Item.code (cAt Try.prog 63 [1, 1, 1, 0, 1]), Item.code (cAt Try.prog 63 [1, 1, 1, 1])]
 (mkJ 1 [(0, .ptr 2 0)] 0 28),
 SFrm.mk 27 (some (opsAt Try.prog 27 [1, 1, 1, 1, 1, 0], [3])) (some 65)
 [Item.code (cAt Try.prog 27 [1, 1, 1, 1, 1, 1])] (mkJ 0 [(6, .ptr 3 0), (8, .ptr 2 0)] 0 71)]
 [(0, OBlk.cells 156 [.int .i64 (IntKind.wrap .i64 (x + 1)), .int .i64 y]),
 (1, OBlk.arr 4 s),
 (2,
 OBlk.cells 111
 [.int .i64 nodes, .int .i64 round, .int .i64 phase,
 .int .i64 deadline, .vec 4, .vec 1, .bool valid]),
 (3,
 OBlk.cells 25
 [.int .i64 0, .int .i64 0, .int .i64 0, .int .i64 0, .nils,
 .nils, .lb false]),
 (4, OBlk.arr 3 d)])))))))
 (.need ((0 : Int) ≤ 0 ∧ 0 < (↑2 : Int))
 (.br (decide (x = 0))
 (.ret
 (SV.tup
 [.agg
 [.int .i64 nodes, .int .i64 round, .int .i64 0, .int .i64 deadline,
 .dat d, .dat s, .lb true],
 .nils]))
 (.ret
 (SV.tup
 [.agg
 [.int .i64 nodes, .int .i64 round, .int .i64 phase,
 .int .i64 deadline, .dat d, .dat s, .bool valid],
 .nils])))) := by kernel_rfl

end
end Go.Proofs.Ytoechplbhbalaaa
end
section
open Go Go.Proofs Sx
namespace Go.Proofs.Ytoechplbhbalaaa
set_option maxRecDepth 100000
set_option maxHeartbeats 0
section
variable (x y n j now patience : Int) (a b d s wt hd : D) (frozen : Bool) (mr mp mt mi mu : Int) (mk mf mto mn mv me : Int) (ml mb : D) (nodes round phase deadline : Int) (valid : Bool)
theorem coll2_in : 
 let z1 : Tree := (.ret (SV.tup [.agg [.int .i64 nodes, .int .i64 round, .int .i64 phase, .int .i64 deadline, .dat d, .dat s, .bool valid], .nils]))
 exec Try.prog ctM 800 (entry Try.prog 28 [.agg [.int .i64 nodes, .int .i64 round, .int .i64 phase, .int .i64 deadline, .dat d, .dat s, .bool valid], .int .i64 now, .agg [.int .i64 mk, .int .i64 mf, .int .i64 mto, .int .i64 mn, .int .i64 mv, .int .i64 me, .dat ml, .dat mb]]) =
 Tree.need (D.Is Int d ∧ D.Is Bool s) (.br (checkCo (CoD.co (CoD.mk nodes round phase deadline d s valid)) != 0) z1 (.br (decide (phase = 0)) z1 (.br (decide (now ≥ deadline)) z1 (.br (decide (mf < 0)) z1
 (.br (decide (mf ≥ nodes)) z1 (.br (mn != round) z1 (.all fun hs => .need (D.sz (D.slc (D.hd (hs 0 0)) 1 []) = 1 ∧ D.Fits d 1 ∧ (D.len (D.slc (D.hd (hs 0 0)) 1 []) + D.len d) * 8 ≤ 140737488355328 ∧ D.len
 (D.slc (D.hd (hs 0 0)) 1 []) + D.len d ≤ 9223372036854775807) (.all fun hs_1 => .all fun hs_2 => .need (D.sz (D.slc (D.hd (hs_2 0 0)) 1 []) = 1 ∧ D.Fits s 1 ∧ (D.len (D.slc (D.hd (hs_2 0 0)) 1 []) + D.len s) * 1 ≤ 140737488355328 ∧ D.len
 (D.slc (D.hd (hs_2 0 0)) 1 []) + D.len s ≤ 9223372036854775807) (.all fun hs_3 => .br (decide (phase = 1)) (.br (decide (mk = 2)) (.br (decide (mv ≥ 0)) (.br (decide (mv ≤ 4096)) (.need (0 ≤ mf ∧ mf <
 (↑(D.len s) : Int) ∧ D.sz s = 1) (.need (D.HasCell s (Int.toNat mf) 0 FT.bool) (.br (!D.getBool s (Int.toNat mf) 0) (.need (0 ≤ mf ∧ mf < (↑(D.len (D.slc (D.hd (hs_1 0 0)) 1 (List.append (D.rows (D.slc
 (D.hd (hs 0 0)) 1 [])) (D.rows d)))) : Int) ∧ D.sz (D.slc (D.hd (hs_1 0 0)) 1 (List.append (D.rows (D.slc (D.hd (hs 0 0)) 1 [])) (D.rows d))) = 1) (.need (Int.toNat mf < D.len (D.slc (D.hd (hs_1 0 0)) 1
 (List.append (D.rows (D.slc (D.hd (hs 0 0)) 1 [])) (D.rows d))) ∧ 1 ≤ D.sz (D.slc (D.hd (hs_1 0 0)) 1 (List.append (D.rows (D.slc (D.hd (hs 0 0)) 1 [])) (D.rows d))) ∧ D.sz (D.slc (D.hd (hs_1 0 0)) 1 (List.append
 (D.rows (D.slc (D.hd (hs 0 0)) 1 [])) (D.rows d))) = 1) (.need (0 ≤ mf ∧ mf < (↑(D.len (D.slc (D.hd (hs_3 0 0)) 1 (List.append (D.rows (D.slc (D.hd (hs_2 0 0)) 1 [])) (D.rows s)))) : Int) ∧ D.sz (D.slc
 (D.hd (hs_3 0 0)) 1 (List.append (D.rows (D.slc (D.hd (hs_2 0 0)) 1 [])) (D.rows s))) = 1) (.need (Int.toNat mf < D.len (D.slc (D.hd (hs_3 0 0)) 1 (List.append (D.rows (D.slc (D.hd (hs_2 0 0)) 1 [])) (D.rows s))) ∧ 1 ≤ D.sz
 (D.slc (D.hd (hs_3 0 0)) 1 (List.append (D.rows (D.slc (D.hd (hs_2 0 0)) 1 [])) (D.rows s))) ∧ D.sz (D.slc (D.hd (hs_3 0 0)) 1 (List.append (D.rows (D.slc (D.hd (hs_2 0 0)) 1 [])) (D.rows s))) = 1) (.need
 (D.Is Bool (D.setCells (D.slc (D.hd (hs_3 0 0)) 1 (List.append (D.rows (D.slc (D.hd (hs_2 0 0)) 1 [])) (D.rows s))) (Int.toNat mf) 0 [D.bool true]) ∧ D.len (D.setCells (D.slc (D.hd (hs_3 0 0)) 1 (List.append
 (D.rows (D.slc (D.hd (hs_2 0 0)) 1 [])) (D.rows s))) (Int.toNat mf) 0 [D.bool true]) ≤ 1048576) (.br (List.all (D.to Bool (D.setCells (D.slc (D.hd (hs_3 0 0)) 1 (List.append (D.rows (D.slc (D.hd (hs_2 0 0)) 1 []))
 (D.rows s))) (Int.toNat mf) 0 [D.bool true])) id) (.all fun hs_4 => .need (0 ≤ nodes ∧ nodes = nodes ∧ (↑1 : Int) * nodes ≤ 281474976710656 ∧ nodes ≤ 9223372036854775807) (.all fun hs_5 => .need (nodes ≤ 8)
 (.ret (SV.tup [.agg [.int .i64 nodes, .int .i64 round, .int .i64 2, .int .i64 deadline, .dat (D.setCells (D.slc (D.hd (hs_1 0 0)) 1 (List.append (D.rows (D.slc (D.hd (hs 0 0)) 1 [])) (D.rows d))) (Int.toNat mf) 0 [D.int .i64 mv]), .dat
 (D.slc (D.hd (hs_4 2 0)) 1 (List.replicate (Int.toNat nodes) [D.bool false])), .bool valid], .dat (D.like (hs_5 2 0) (msgsTo nodes round 3))])))) (.ret (SV.tup [.agg [.int .i64 nodes, .int .i64 round, .int .i64 phase, .int .i64 deadline, .dat
 (D.setCells (D.slc (D.hd (hs_1 0 0)) 1 (List.append (D.rows (D.slc (D.hd (hs 0 0)) 1 [])) (D.rows d))) (Int.toNat mf) 0 [D.int .i64 mv]), .dat (D.setCells (D.slc (D.hd (hs_3 0 0)) 1 (List.append (D.rows
 (D.slc (D.hd (hs_2 0 0)) 1 [])) (D.rows s))) (Int.toNat mf) 0 [D.bool true]), .bool valid], .nils])))))))) (.br (decide (phase = 2)) (.br (decide (mk = 4)) (.br (mv != 1) (.need (D.Is Int (D.slc (D.hd
 (hs_1 0 0)) 1 (List.append (D.rows (D.slc (D.hd (hs 0 0)) 1 [])) (D.rows d))) ∧ D.Is Bool (D.slc (D.hd (hs_3 0 0)) 1 (List.append (D.rows (D.slc (D.hd (hs_2 0 0)) 1 [])) (D.rows s))) ∧ nodes ≤ 8) (.all fun hs_4 => .ret
 (SV.tup [.agg [.int .i64 nodes, .int .i64 round, .int .i64 0, .int .i64 deadline, .dat (D.like (hs_4 0 0) (D.to Int (D.slc (D.hd (hs_1 0 0)) 1 (List.append (D.rows (D.slc (D.hd (hs 0 0)) 1 [])) (D.rows d))))), .dat
 (D.like (hs_4 0 1) (D.to Bool (D.slc (D.hd (hs_3 0 0)) 1 (List.append (D.rows (D.slc (D.hd (hs_2 0 0)) 1 [])) (D.rows s))))), .bool false], .dat (D.like (hs_4 0 2) (msgsTo nodes round 24))]))) (.need (0 ≤ mf ∧ mf <
 (↑(D.len (D.slc (D.hd (hs_3 0 0)) 1 (List.append (D.rows (D.slc (D.hd (hs_2 0 0)) 1 [])) (D.rows s)))) : Int) ∧ D.sz (D.slc (D.hd (hs_3 0 0)) 1 (List.append (D.rows (D.slc (D.hd (hs_2 0 0)) 1 [])) (D.rows s))) = 1)
 (.need (Int.toNat mf < D.len (D.slc (D.hd (hs_3 0 0)) 1 (List.append (D.rows (D.slc (D.hd (hs_2 0 0)) 1 [])) (D.rows s))) ∧ 1 ≤ D.sz (D.slc (D.hd (hs_3 0 0)) 1 (List.append (D.rows (D.slc (D.hd (hs_2 0 0)) 1 []))
 (D.rows s))) ∧ D.sz (D.slc (D.hd (hs_3 0 0)) 1 (List.append (D.rows (D.slc (D.hd (hs_2 0 0)) 1 [])) (D.rows s))) = 1) (.need (D.Is Bool (D.setCells (D.slc (D.hd (hs_3 0 0)) 1 (List.append (D.rows (D.slc
 (D.hd (hs_2 0 0)) 1 [])) (D.rows s))) (Int.toNat mf) 0 [D.bool true]) ∧ D.len (D.setCells (D.slc (D.hd (hs_3 0 0)) 1 (List.append (D.rows (D.slc (D.hd (hs_2 0 0)) 1 [])) (D.rows s))) (Int.toNat mf) 0 [D.bool true]) ≤ 1048576)
 (.br (List.all (D.to Bool (D.setCells (D.slc (D.hd (hs_3 0 0)) 1 (List.append (D.rows (D.slc (D.hd (hs_2 0 0)) 1 [])) (D.rows s))) (Int.toNat mf) 0 [D.bool true])) id) (.ret (SV.tup [.agg [.int .i64 nodes, .int .i64 round, .int .i64 0, .int .i64 deadline, .dat
 (D.slc (D.hd (hs_1 0 0)) 1 (List.append (D.rows (D.slc (D.hd (hs 0 0)) 1 [])) (D.rows d))), .dat (D.setCells (D.slc (D.hd (hs_3 0 0)) 1 (List.append (D.rows (D.slc (D.hd (hs_2 0 0)) 1 [])) (D.rows s)))
 (Int.toNat mf) 0 [D.bool true]), .lb true], .nils])) (.ret (SV.tup [.agg [.int .i64 nodes, .int .i64 round, .int .i64 phase, .int .i64 deadline, .dat (D.slc (D.hd (hs_1 0 0)) 1 (List.append (D.rows (D.slc
 (D.hd (hs 0 0)) 1 [])) (D.rows d))), .dat (D.setCells (D.slc (D.hd (hs_3 0 0)) 1 (List.append (D.rows (D.slc (D.hd (hs_2 0 0)) 1 [])) (D.rows s))) (Int.toNat mf) 0 [D.bool true]), .bool valid], .nils]))))))) z1) z1))))
 (.br (decide (phase = 2)) (.br (decide (mk = 4)) (.br (mv != 1) (.need (D.Is Int (D.slc (D.hd (hs_1 0 0)) 1 (List.append (D.rows (D.slc (D.hd (hs 0 0)) 1 [])) (D.rows d))) ∧ D.Is Bool (D.slc (D.hd (hs_3 0 0)) 1
 (List.append (D.rows (D.slc (D.hd (hs_2 0 0)) 1 [])) (D.rows s))) ∧ nodes ≤ 8) (.all fun hs_4 => .ret (SV.tup [.agg [.int .i64 nodes, .int .i64 round, .int .i64 0, .int .i64 deadline, .dat (D.like (hs_4 0 0)
 (D.to Int (D.slc (D.hd (hs_1 0 0)) 1 (List.append (D.rows (D.slc (D.hd (hs 0 0)) 1 [])) (D.rows d))))), .dat (D.like (hs_4 0 1) (D.to Bool (D.slc (D.hd (hs_3 0 0)) 1 (List.append (D.rows (D.slc (D.hd (hs_2 0 0)) 1 []))
 (D.rows s))))), .bool false], .dat (D.like (hs_4 0 2) (msgsTo nodes round 24))]))) (.need (0 ≤ mf ∧ mf < (↑(D.len (D.slc (D.hd (hs_3 0 0)) 1 (List.append (D.rows (D.slc (D.hd (hs_2 0 0)) 1 [])) (D.rows s)))) : Int) ∧ D.sz
 (D.slc (D.hd (hs_3 0 0)) 1 (List.append (D.rows (D.slc (D.hd (hs_2 0 0)) 1 [])) (D.rows s))) = 1) (.need (Int.toNat mf < D.len (D.slc (D.hd (hs_3 0 0)) 1 (List.append (D.rows (D.slc (D.hd (hs_2 0 0)) 1 []))
 (D.rows s))) ∧ 1 ≤ D.sz (D.slc (D.hd (hs_3 0 0)) 1 (List.append (D.rows (D.slc (D.hd (hs_2 0 0)) 1 [])) (D.rows s))) ∧ D.sz (D.slc (D.hd (hs_3 0 0)) 1 (List.append (D.rows (D.slc (D.hd (hs_2 0 0)) 1 []))
 (D.rows s))) = 1) (.need (D.Is Bool (D.setCells (D.slc (D.hd (hs_3 0 0)) 1 (List.append (D.rows (D.slc (D.hd (hs_2 0 0)) 1 [])) (D.rows s))) (Int.toNat mf) 0 [D.bool true]) ∧ D.len (D.setCells (D.slc (D.hd
 (hs_3 0 0)) 1 (List.append (D.rows (D.slc (D.hd (hs_2 0 0)) 1 [])) (D.rows s))) (Int.toNat mf) 0 [D.bool true]) ≤ 1048576) (.br (List.all (D.to Bool (D.setCells (D.slc (D.hd (hs_3 0 0)) 1 (List.append
 (D.rows (D.slc (D.hd (hs_2 0 0)) 1 [])) (D.rows s))) (Int.toNat mf) 0 [D.bool true])) id) (.ret (SV.tup [.agg [.int .i64 nodes, .int .i64 round, .int .i64 0, .int .i64 deadline, .dat (D.slc (D.hd (hs_1 0 0)) 1
 (List.append (D.rows (D.slc (D.hd (hs 0 0)) 1 [])) (D.rows d))), .dat (D.setCells (D.slc (D.hd (hs_3 0 0)) 1 (List.append (D.rows (D.slc (D.hd (hs_2 0 0)) 1 [])) (D.rows s))) (Int.toNat mf) 0 [D.bool true]), .lb true], .nils]))
 (.ret (SV.tup [.agg [.int .i64 nodes, .int .i64 round, .int .i64 phase, .int .i64 deadline, .dat (D.slc (D.hd (hs_1 0 0)) 1 (List.append (D.rows (D.slc (D.hd (hs 0 0)) 1 [])) (D.rows d))), .dat (D.setCells
 (D.slc (D.hd (hs_3 0 0)) 1 (List.append (D.rows (D.slc (D.hd (hs_2 0 0)) 1 [])) (D.rows s))) (Int.toNat mf) 0 [D.bool true]), .bool valid], .nils]))))))) z1) z1)) (.br (decide (phase = 2)) (.br (decide
 (mk = 4)) (.br (mv != 1) (.need (D.Is Int (D.slc (D.hd (hs_1 0 0)) 1 (List.append (D.rows (D.slc (D.hd (hs 0 0)) 1 [])) (D.rows d))) ∧ D.Is Bool (D.slc (D.hd (hs_3 0 0)) 1 (List.append (D.rows (D.slc (D.hd
 (hs_2 0 0)) 1 [])) (D.rows s))) ∧ nodes ≤ 8) (.all fun hs_4 => .ret (SV.tup [.agg [.int .i64 nodes, .int .i64 round, .int .i64 0, .int .i64 deadline, .dat (D.like (hs_4 0 0) (D.to Int (D.slc (D.hd (hs_1 0 0)) 1
 (List.append (D.rows (D.slc (D.hd (hs 0 0)) 1 [])) (D.rows d))))), .dat (D.like (hs_4 0 1) (D.to Bool (D.slc (D.hd (hs_3 0 0)) 1 (List.append (D.rows (D.slc (D.hd (hs_2 0 0)) 1 [])) (D.rows s))))), .bool false], .dat
 (D.like (hs_4 0 2) (msgsTo nodes round 24))]))) (.need (0 ≤ mf ∧ mf < (↑(D.len (D.slc (D.hd (hs_3 0 0)) 1 (List.append (D.rows (D.slc (D.hd (hs_2 0 0)) 1 [])) (D.rows s)))) : Int) ∧ D.sz (D.slc (D.hd (hs_3 0 0)) 1
 (List.append (D.rows (D.slc (D.hd (hs_2 0 0)) 1 [])) (D.rows s))) = 1) (.need (Int.toNat mf < D.len (D.slc (D.hd (hs_3 0 0)) 1 (List.append (D.rows (D.slc (D.hd (hs_2 0 0)) 1 [])) (D.rows s))) ∧ 1 ≤ D.sz
 (D.slc (D.hd (hs_3 0 0)) 1 (List.append (D.rows (D.slc (D.hd (hs_2 0 0)) 1 [])) (D.rows s))) ∧ D.sz (D.slc (D.hd (hs_3 0 0)) 1 (List.append (D.rows (D.slc (D.hd (hs_2 0 0)) 1 [])) (D.rows s))) = 1) (.need
 (D.Is Bool (D.setCells (D.slc (D.hd (hs_3 0 0)) 1 (List.append (D.rows (D.slc (D.hd (hs_2 0 0)) 1 [])) (D.rows s))) (Int.toNat mf) 0 [D.bool true]) ∧ D.len (D.setCells (D.slc (D.hd (hs_3 0 0)) 1 (List.append
 (D.rows (D.slc (D.hd (hs_2 0 0)) 1 [])) (D.rows s))) (Int.toNat mf) 0 [D.bool true]) ≤ 1048576) (.br (List.all (D.to Bool (D.setCells (D.slc (D.hd (hs_3 0 0)) 1 (List.append (D.rows (D.slc (D.hd (hs_2 0 0)) 1 []))
 (D.rows s))) (Int.toNat mf) 0 [D.bool true])) id) (.ret (SV.tup [.agg [.int .i64 nodes, .int .i64 round, .int .i64 0, .int .i64 deadline, .dat (D.slc (D.hd (hs_1 0 0)) 1 (List.append (D.rows (D.slc (D.hd
 (hs 0 0)) 1 [])) (D.rows d))), .dat (D.setCells (D.slc (D.hd (hs_3 0 0)) 1 (List.append (D.rows (D.slc (D.hd (hs_2 0 0)) 1 [])) (D.rows s))) (Int.toNat mf) 0 [D.bool true]), .lb true], .nils])) (.ret (SV.tup [.agg [.int .i64 nodes, .int .i64 round, .int .i64 phase, .int .i64 deadline, .dat
 (D.slc (D.hd (hs_1 0 0)) 1 (List.append (D.rows (D.slc (D.hd (hs 0 0)) 1 [])) (D.rows d))), .dat (D.setCells (D.slc (D.hd (hs_3 0 0)) 1 (List.append (D.rows (D.slc (D.hd (hs_2 0 0)) 1 [])) (D.rows s)))
 (Int.toNat mf) 0 [D.bool true]), .bool valid], .nils]))))))) z1) z1)) (.br (decide (phase = 2)) (.br (decide (mk = 4)) (.br (mv != 1) (.need (D.Is Int (D.slc (D.hd (hs_1 0 0)) 1 (List.append (D.rows (D.slc
 (D.hd (hs 0 0)) 1 [])) (D.rows d))) ∧ D.Is Bool (D.slc (D.hd (hs_3 0 0)) 1 (List.append (D.rows (D.slc (D.hd (hs_2 0 0)) 1 [])) (D.rows s))) ∧ nodes ≤ 8) (.all fun hs_4 => .ret (SV.tup [.agg [.int .i64 nodes, .int .i64 round, .int .i64 0, .int .i64 deadline, .dat
 (D.like (hs_4 0 0) (D.to Int (D.slc (D.hd (hs_1 0 0)) 1 (List.append (D.rows (D.slc (D.hd (hs 0 0)) 1 [])) (D.rows d))))), .dat (D.like (hs_4 0 1) (D.to Bool (D.slc (D.hd (hs_3 0 0)) 1 (List.append (D.rows
 (D.slc (D.hd (hs_2 0 0)) 1 [])) (D.rows s))))), .bool false], .dat (D.like (hs_4 0 2) (msgsTo nodes round 24))]))) (.need (0 ≤ mf ∧ mf < (↑(D.len (D.slc (D.hd (hs_3 0 0)) 1 (List.append (D.rows (D.slc
 (D.hd (hs_2 0 0)) 1 [])) (D.rows s)))) : Int) ∧ D.sz (D.slc (D.hd (hs_3 0 0)) 1 (List.append (D.rows (D.slc (D.hd (hs_2 0 0)) 1 [])) (D.rows s))) = 1) (.need (Int.toNat mf < D.len (D.slc (D.hd (hs_3 0 0)) 1
 (List.append (D.rows (D.slc (D.hd (hs_2 0 0)) 1 [])) (D.rows s))) ∧ 1 ≤ D.sz (D.slc (D.hd (hs_3 0 0)) 1 (List.append (D.rows (D.slc (D.hd (hs_2 0 0)) 1 [])) (D.rows s))) ∧ D.sz (D.slc (D.hd (hs_3 0 0)) 1
 (List.append (D.rows (D.slc (D.hd (hs_2 0 0)) 1 [])) (D.rows s))) = 1) (.need (D.Is Bool (D.setCells (D.slc (D.hd (hs_3 0 0)) 1 (List.append (D.rows (D.slc (D.hd (hs_2 0 0)) 1 [])) (D.rows s))) (Int.toNat mf) 0 [D.bool true]) ∧ D.len
 (D.setCells (D.slc (D.hd (hs_3 0 0)) 1 (List.append (D.rows (D.slc (D.hd (hs_2 0 0)) 1 [])) (D.rows s))) (Int.toNat mf) 0 [D.bool true]) ≤ 1048576) (.br (List.all (D.to Bool (D.setCells (D.slc (D.hd (hs_3 0 0)) 1
 (List.append (D.rows (D.slc (D.hd (hs_2 0 0)) 1 [])) (D.rows s))) (Int.toNat mf) 0 [D.bool true])) id) (.ret (SV.tup [.agg [.int .i64 nodes, .int .i64 round, .int .i64 0, .int .i64 deadline, .dat (D.slc
 (D.hd (hs_1 0 0)) 1 (List.append (D.rows (D.slc (D.hd (hs 0 0)) 1 [])) (D.rows d))), .dat (D.setCells (D.slc (D.hd (hs_3 0 0)) 1 (List.append (D.rows (D.slc (D.hd (hs_2 0 0)) 1 [])) (D.rows s))) (Int.toNat mf) 0 [D.bool true]), .lb true], .nils]))
 (.ret (SV.tup [.agg [.int .i64 nodes, .int .i64 round, .int .i64 phase, .int .i64 deadline, .dat (D.slc (D.hd (hs_1 0 0)) 1 (List.append (D.rows (D.slc (D.hd (hs 0 0)) 1 [])) (D.rows d))), .dat (D.setCells
 (D.slc (D.hd (hs_3 0 0)) 1 (List.append (D.rows (D.slc (D.hd (hs_2 0 0)) 1 [])) (D.rows s))) (Int.toNat mf) 0 [D.bool true]), .bool valid], .nils]))))))) z1) z1)) (.br (decide (phase = 2)) (.br (decide
 (mk = 4)) (.br (mv != 1) (.need (D.Is Int (D.slc (D.hd (hs_1 0 0)) 1 (List.append (D.rows (D.slc (D.hd (hs 0 0)) 1 [])) (D.rows d))) ∧ D.Is Bool (D.slc (D.hd (hs_3 0 0)) 1 (List.append (D.rows (D.slc (D.hd
 (hs_2 0 0)) 1 [])) (D.rows s))) ∧ nodes ≤ 8) (.all fun hs_4 => .ret (SV.tup [.agg [.int .i64 nodes, .int .i64 round, .int .i64 0, .int .i64 deadline, .dat (D.like (hs_4 0 0) (D.to Int (D.slc (D.hd (hs_1 0 0)) 1
 (List.append (D.rows (D.slc (D.hd (hs 0 0)) 1 [])) (D.rows d))))), .dat (D.like (hs_4 0 1) (D.to Bool (D.slc (D.hd (hs_3 0 0)) 1 (List.append (D.rows (D.slc (D.hd (hs_2 0 0)) 1 [])) (D.rows s))))), .bool false], .dat
 (D.like (hs_4 0 2) (msgsTo nodes round 24))]))) (.need (0 ≤ mf ∧ mf < (↑(D.len (D.slc (D.hd (hs_3 0 0)) 1 (List.append (D.rows (D.slc (D.hd (hs_2 0 0)) 1 [])) (D.rows s)))) : Int) ∧ D.sz (D.slc (D.hd (hs_3 0 0)) 1
 (List.append (D.rows (D.slc (D.hd (hs_2 0 0)) 1 [])) (D.rows s))) = 1) (.need (Int.toNat mf < D.len (D.slc (D.hd (hs_3 0 0)) 1 (List.append (D.rows (D.slc (D.hd (hs_2 0 0)) 1 [])) (D.rows s))) ∧ 1 ≤ D.sz
 (D.slc (D.hd (hs_3 0 0)) 1 (List.append (D.rows (D.slc (D.hd (hs_2 0 0)) 1 [])) (D.rows s))) ∧ D.sz (D.slc (D.hd (hs_3 0 0)) 1 (List.append (D.rows (D.slc (D.hd (hs_2 0 0)) 1 [])) (D.rows s))) = 1) (.need
 (D.Is Bool (D.setCells (D.slc (D.hd (hs_3 0 0)) 1 (List.append (D.rows (D.slc (D.hd (hs_2 0 0)) 1 [])) (D.rows s))) (Int.toNat mf) 0 [D.bool true]) ∧ D.len (D.setCells (D.slc (D.hd (hs_3 0 0)) 1 (List.append
 (D.rows (D.slc (D.hd (hs_2 0 0)) 1 [])) (D.rows s))) (Int.toNat mf) 0 [D.bool true]) ≤ 1048576) (.br (List.all (D.to Bool (D.setCells (D.slc (D.hd (hs_3 0 0)) 1 (List.append (D.rows (D.slc (D.hd (hs_2 0 0)) 1 []))
 (D.rows s))) (Int.toNat mf) 0 [D.bool true])) id) (.ret (SV.tup [.agg [.int .i64 nodes, .int .i64 round, .int .i64 0, .int .i64 deadline, .dat (D.slc (D.hd (hs_1 0 0)) 1 (List.append (D.rows (D.slc (D.hd
 (hs 0 0)) 1 [])) (D.rows d))), .dat (D.setCells (D.slc (D.hd (hs_3 0 0)) 1 (List.append (D.rows (D.slc (D.hd (hs_2 0 0)) 1 [])) (D.rows s))) (Int.toNat mf) 0 [D.bool true]), .lb true], .nils])) (.ret (SV.tup [.agg [.int .i64 nodes, .int .i64 round, .int .i64 phase, .int .i64 deadline, .dat
 (D.slc (D.hd (hs_1 0 0)) 1 (List.append (D.rows (D.slc (D.hd (hs 0 0)) 1 [])) (D.rows d))), .dat (D.setCells (D.slc (D.hd (hs_3 0 0)) 1 (List.append (D.rows (D.slc (D.hd (hs_2 0 0)) 1 [])) (D.rows s)))
 (Int.toNat mf) 0 [D.bool true]), .bool valid], .nils]))))))) z1) z1)))))))))) := by
 intros; kernel_rfl

end
end Go.Proofs.Ytoechplbhbalaaa
end
section
open Go Go.Proofs Sx
namespace Sx
theorem set_one {α : Type} [Codec α] {d : D} (hd : d.Is α) {i : Nat} (hi : i < (d.to α).length) (hs : Codec.sz α = 1) {c : D} {x : α} (hc : Codec.ok α [c]) (hx : Codec.dec [c] = x) :
  (d.setCells i 0 [c]).Is α ∧ (d.setCells i 0 [c]).to α = (d.to α).set i x := by
 have hz := hd.size hi
 have hr := rows_of hd
 have hl := rows_len hr
 have e : cutIn (d.rows.getD i []) 0 [c] = [c] := by
  have h1 : d.rows.getD i [] = d.rows[i] := by simp [hl, hi]
  have h2 := Codec.len (α := α) d.rows[i] (hr.1 _ (List.getElem_mem _))
  rw [hs] at h2
  rw [h1]
  obtain ⟨y, hy⟩ := List.length_eq_one_iff.1 h2
  rw [hy]; rfl
 have := is_of (α := α) (h := d.hd) (s := d.sz) (rows := d.rows.set i [c]) (xs := (d.to α).set i x) hz ⟨fun r hr' => by
  rcases List.mem_or_eq_of_mem_set hr' with h | h
  ·exact hr.1 r h
  ·rw [h]; exact hc, by rw [List.map_set, hr.2, hx]⟩
 unfold D.setCells
 rw [e]
 exact this

theorem copy_is {α : Type} [Codec α] (h1 : Codec.sz α = 1) {d : D} (hd : d.Is α) (a b : Hd) : (D.slc a 1 (List.append (D.rows (D.slc b 1 [])) (D.rows d))).Is α ∧ (D.slc a 1 (List.append (D.rows (D.slc b 1 [])) (D.rows d))).to α = d.to α :=
 is_of h1.symm (rows_of hd)
def collGo (c : Co) (m : Msg) (g al : Bool) : Co × List Msg :=
 if m.kind = 2 then
  if c.phase ≠ 1 ∨ m.value < 0 ∨ m.value > 4096 ∨ g = true then (c, [])
  else if al = true then (⟨c.nodes, c.round, 2, c.deadline, c.positions.set m.frm.toNat m.value, List.replicate c.nodes.toNat false, c.valid⟩, msgsTo c.nodes c.round 3)
  else (⟨c.nodes, c.round, c.phase, c.deadline, c.positions.set m.frm.toNat m.value, c.seen.set m.frm.toNat true, c.valid⟩, [])
 else if m.kind = 4 then
  if c.phase ≠ 2 then (c, [])
  else if m.value ≠ 1 then (⟨c.nodes, c.round, 0, c.deadline, c.positions, c.seen, false⟩, msgsTo c.nodes c.round 24)
  else if al = true then (⟨c.nodes, c.round, 0, c.deadline, c.positions, c.seen.set m.frm.toNat true, true⟩, [])
  else (⟨c.nodes, c.round, c.phase, c.deadline, c.positions, c.seen.set m.frm.toNat true, c.valid⟩, [])
 else (c, [])

theorem coll_bad {c : Co} {now : Int} {m : Msg} (h : ¬checkCo c = 0 ∨ c.phase = 0 ∨ now ≥ c.deadline ∨ m.frm < 0 ∨ m.frm ≥ c.nodes ∨ ¬m.number = c.round) : collectCo c now m = (c, []) := by rw [collectCo, if_pos h]
theorem coll_go {c : Co} {now : Int} {m : Msg} {g al : Bool} (h : ¬(¬checkCo c = 0 ∨ c.phase = 0 ∨ now ≥ c.deadline ∨ m.frm < 0 ∨ m.frm ≥ c.nodes ∨ ¬m.number = c.round))
  (hg : c.seen.getD m.frm.toNat true = g) (ha : (c.seen.set m.frm.toNat true).all id = al) : collectCo c now m = collGo c m g al := by
 rw [collectCo, if_neg h, hg, ha]
 rfl

section
variable {P : Program} {w : World} {H : HV}
end
end Sx

namespace Go.Proofs.Ytoechplbhbalaaa
set_option maxRecDepth 100000
set_option maxHeartbeats 0

theorem lawColl2 : Law Try.prog 28 ((rdCo.three rdInt rdMsg).sp spColl) := by
 refine law_in _ (by kernel_rfl) fun H w ⟨⟨n, r, p, dl, d, s, v⟩, now, ⟨mk, mf, mto, mn, mv, me, ml, mb⟩⟩ hok hp => ?_
 obtain ⟨hd, hs⟩ := hp _ (List.mem_singleton.2 rfl)
 simp only at hd hs
 clear hp hok
 apply exec_sound ctMOk 800
 rw [show (rdCo.three rdInt rdMsg).canon (⟨n, r, p, dl, d, s, v⟩, now, ⟨mk, mf, mto, mn, mv, me, ml, mb⟩) = [.agg [.int .i64 n, .int .i64 r, .int .i64 p, .int .i64 dl, .dat d, .dat s, .bool v], .int .i64 now, .agg [.int .i64 mk, .int .i64 mf, .int .i64 mto, .int .i64 mn, .int .i64 mv, .int .i64 me, .dat ml, .dat mb]] from rfl, coll2_in]
 have bad : ∀ {V}, (∀ E, V.den E = (SV.bool v).den E) → (¬checkCo ⟨n, r, p, dl, d.to Int, s.to Bool, v⟩ = 0 ∨ p = 0 ∨ now ≥ dl ∨ mf < 0 ∨ mf ≥ n ∨ ¬mn = r) → (Tree.ret (.tup [.agg [.int .i64 n, .int .i64 r, .int .i64 p, .int .i64 dl, .dat d, .dat s, V], .nils])).holds Try.prog ⟨w, H⟩ (RetD w H fun ds =>
   .tup [coSV (ds 0) (ds 1) (collectCo ⟨n, r, p, dl, d.to Int, s.to Bool, v⟩ now ⟨mk, mf, mto, mn, mv, me, ml.to Int, mb.to Byte⟩).1, .dat ((ds 2).like (collectCo ⟨n, r, p, dl, d.to Int, s.to Bool, v⟩ now ⟨mk, mf, mto, mn, mv, me, ml.to Int, mb.to Byte⟩).2)]) :=
  fun hv h => ret_co2 (stands_self hd) (stands_self hs) hv stands_nils (coll_bad h)
 refine ⟨⟨hd, hs⟩, fun h1 => ?_, fun h1 => ⟨fun h2 => ?_, fun h2 => ⟨fun h3 => ?_, fun h3 => ⟨fun h4 => ?_, fun h4 => ⟨fun h5 => ?_, fun h5 => ⟨fun h6 => ?_, fun h6 => ?_⟩⟩⟩⟩⟩⟩
 ·simp only [bne_iff_ne, ne_eq] at h1
  exact bad (fun _ => rfl) (.inl h1)
 ·simp only [decide_eq_true_eq] at h2
  exact bad (fun _ => rfl) (.inr (.inl h2))
 ·simp only [decide_eq_true_eq] at h3
  exact bad (fun _ => rfl) (.inr (.inr (.inl h3)))
 ·simp only [decide_eq_true_eq] at h4
  exact bad (fun _ => rfl) (.inr (.inr (.inr (.inl h4))))
 ·simp only [decide_eq_true_eq] at h5
  exact bad (fun _ => rfl) (.inr (.inr (.inr (.inr (.inl h5)))))
 ·simp only [bne_iff_ne, ne_eq] at h6
  exact bad (fun _ => rfl) (.inr (.inr (.inr (.inr (.inr h6)))))
 ·simp only [bne_eq_false_iff_eq] at h1 h6
  simp only [decide_eq_false_iff_not] at h2 h3 h4 h5
  have hck : checkCo ⟨n, r, p, dl, d.to Int, s.to Bool, v⟩ = 0 := h1
  clear h1
  have hz := checkCo_zero.1 hck
  have hi : mf.toNat < (s.to Bool).length := by omega
  have hi' : mf.toNat < (d.to Int).length := by omega
  have l1 := D.Is.length (α := Int) d
  have l2 := D.Is.length (α := Bool) s
  have l1' := rows_len (rows_of hd)
  have l2' := rows_len (rows_of hs)
  obtain ⟨g, hg⟩ : ∃ g, (s.to Bool).getD mf.toNat true = g := ⟨_, rfl⟩
  obtain ⟨al, ha⟩ : ∃ al, ((s.to Bool).set mf.toNat true).all id = al := ⟨_, rfl⟩
  have E0 : collectCo ⟨n, r, p, dl, d.to Int, s.to Bool, v⟩ now ⟨mk, mf, mto, mn, mv, me, ml.to Int, mb.to Byte⟩ = collGo ⟨n, r, p, dl, d.to Int, s.to Bool, v⟩ ⟨mk, mf, mto, mn, mv, me, ml.to Int, mb.to Byte⟩ g al :=
   coll_go (by simp only [hck, not_true_eq_false, false_or]; omega) hg ha
  obtain ⟨b1, b2⟩ := bool_cell hs hi
  have hg' : s.getBool (Int.toNat mf) 0 = g := by rw [b1, ← hg]; simp [hi]
  have dI := fun a b => copy_is (α := Int) rfl hd a b
  have sI := fun a b => copy_is (α := Bool) rfl hs a b
  have dS := fun a b => set_one (c := .int .i64 mv) (x := mv) (dI a b).1 (i := mf.toNat) (by rw [(dI a b).2]; exact hi') rfl ⟨_, rfl⟩ rfl
  have sS := fun a b => set_one (c := .bool true) (x := true) (sI a b).1 (i := mf.toNat) (by rw [(sI a b).2]; exact hi) rfl ⟨_, rfl⟩ rfl
  have ha' : ∀ a b, List.all (D.to Bool (D.setCells (D.slc a 1 (List.append (D.rows (D.slc b 1 [])) (D.rows s))) (Int.toNat mf) 0 [D.bool true])) id = al := fun a b => by rw [(sS a b).2, (sI a b).2, ha]
  have n1 : ∀ a, (D.slc a 1 []).sz = 1 ∧ d.Fits 1 ∧ ((D.slc a 1 []).len + d.len) * 8 ≤ 140737488355328 ∧ (D.slc a 1 []).len + d.len ≤ 9223372036854775807 := fun a => ⟨rfl, hd.fits, by simp only [len_slc, List.length_nil]; omega, by simp only [len_slc, List.length_nil]; omega⟩
  have n2 : ∀ a, (D.slc a 1 []).sz = 1 ∧ s.Fits 1 ∧ ((D.slc a 1 []).len + s.len) * 1 ≤ 140737488355328 ∧ (D.slc a 1 []).len + s.len ≤ 9223372036854775807 := fun a => ⟨rfl, hs.fits, by simp only [len_slc, List.length_nil]; omega, by simp only [len_slc, List.length_nil]; omega⟩
  have n3 : 0 ≤ mf ∧ mf < (s.len : Int) ∧ s.sz = 1 := ⟨by omega, by omega, hs.size hi⟩
  have cd : ∀ a b, (D.slc a 1 (List.append (D.rows (D.slc b 1 [])) (D.rows d))).len = d.len := fun a b => by rw [D.Is.length (α := Int), (dI a b).2, l1]
  have cs : ∀ a b, (D.slc a 1 (List.append (D.rows (D.slc b 1 [])) (D.rows s))).len = s.len := fun a b => by rw [D.Is.length (α := Bool), (sI a b).2, l2]
  have n5 : ∀ a b, 0 ≤ mf ∧ mf < ((D.slc a 1 (List.append (D.rows (D.slc b 1 [])) (D.rows d))).len : Int) ∧ (D.slc a 1 (List.append (D.rows (D.slc b 1 [])) (D.rows d))).sz = 1 := fun a b => ⟨by omega, by rw [cd]; omega, rfl⟩
  have n6 : ∀ a b, Int.toNat mf < (D.slc a 1 (List.append (D.rows (D.slc b 1 [])) (D.rows d))).len ∧ 1 ≤ (D.slc a 1 (List.append (D.rows (D.slc b 1 [])) (D.rows d))).sz ∧ (D.slc a 1 (List.append (D.rows (D.slc b 1 [])) (D.rows d))).sz = 1 := fun a b => ⟨by rw [cd]; omega, Nat.le_refl 1, rfl⟩
  have n7 : ∀ a b, 0 ≤ mf ∧ mf < ((D.slc a 1 (List.append (D.rows (D.slc b 1 [])) (D.rows s))).len : Int) ∧ (D.slc a 1 (List.append (D.rows (D.slc b 1 [])) (D.rows s))).sz = 1 := fun a b => ⟨by omega, by rw [cs]; omega, rfl⟩
  have n8 : ∀ a b, Int.toNat mf < (D.slc a 1 (List.append (D.rows (D.slc b 1 [])) (D.rows s))).len ∧ 1 ≤ (D.slc a 1 (List.append (D.rows (D.slc b 1 [])) (D.rows s))).sz ∧ (D.slc a 1 (List.append (D.rows (D.slc b 1 [])) (D.rows s))).sz = 1 := fun a b => ⟨by rw [cs]; omega, Nat.le_refl 1, rfl⟩
  have n9 : ∀ a b, (D.setCells (D.slc a 1 (List.append (D.rows (D.slc b 1 [])) (D.rows s))) (Int.toNat mf) 0 [D.bool true]).Is Bool ∧ (D.setCells (D.slc a 1 (List.append (D.rows (D.slc b 1 [])) (D.rows s))) (Int.toNat mf) 0 [D.bool true]).len ≤ 1048576 := fun a b =>
   ⟨(sS a b).1, by rw [D.Is.length (α := Bool), (sS a b).2, (sI a b).2, List.length_set]; omega⟩
  have n10 : 0 ≤ n ∧ n = n ∧ ((1 : Nat) : Int) * n ≤ 281474976710656 ∧ n ≤ 9223372036854775807 := ⟨by omega, rfl, by omega, by omega⟩
  have n11 : n ≤ 8 := by omega
  have n12 : ∀ a b c e, (D.slc a 1 (List.append (D.rows (D.slc b 1 [])) (D.rows d))).Is Int ∧ (D.slc c 1 (List.append (D.rows (D.slc e 1 [])) (D.rows s))).Is Bool ∧ n ≤ 8 := fun a b c e => ⟨(dI a b).1, (sI c e).1, by omega⟩
  have sd : ∀ a b, Stands Int (.dat (D.setCells (D.slc a 1 (List.append (D.rows (D.slc b 1 [])) (D.rows d))) (Int.toNat mf) 0 [D.int .i64 mv])) ((d.to Int).set mf.toNat mv) := fun a b => stands_dat (dS a b).1 (by rw [(dS a b).2, (dI a b).2])
  have ss : ∀ a b, Stands Bool (.dat (D.setCells (D.slc a 1 (List.append (D.rows (D.slc b 1 [])) (D.rows s))) (Int.toNat mf) 0 [D.bool true])) ((s.to Bool).set mf.toNat true) := fun a b => stands_dat (sS a b).1 (by rw [(sS a b).2, (sI a b).2])
  have cd' : ∀ a b, Stands Int (.dat (D.slc a 1 (List.append (D.rows (D.slc b 1 [])) (D.rows d)))) (d.to Int) := fun a b => stands_dat (dI a b).1 (dI a b).2
  have cs' : ∀ a b, Stands Bool (.dat (D.slc a 1 (List.append (D.rows (D.slc b 1 [])) (D.rows s)))) (s.to Bool) := fun a b => stands_dat (sI a b).1 (sI a b).2
  simp only [hg', ha', fun a b => (dI a b).2, fun a b => (sI a b).2]
  simp only [CoD.co, MsgD.msg]
  rw [E0]
  clear E0 ha' hg' dI sI dS sS cd cs l1 l2 l1' l2' hg ha bad b1 hi hi' hck
  repeat' first
   | exact n11
   | refine ⟨n1 _, ?_⟩
   | refine ⟨n2 _, ?_⟩
   | refine ⟨n3, ?_⟩
   | refine ⟨b2, ?_⟩
   | refine ⟨n5 _ _, ?_⟩
   | refine ⟨n6 _ _, ?_⟩
   | refine ⟨n7 _ _, ?_⟩
   | refine ⟨n8 _ _, ?_⟩
   | refine ⟨n9 _ _, ?_⟩
   | refine ⟨⟨n10.1, trivial, n10.2.2⟩, ?_⟩
   | refine ⟨n11, ?_⟩
   | refine ⟨n12 _ _ _ _, ?_⟩
   | refine ⟨fun hc => ?_, fun hc => ?_⟩
   | with_reducible refine holds_all.2 fun _ => ?_
   | fail
  all_goals (
   apply ret_co2
   case hx => first | exact stands_like | exact stands_self hd | exact sd _ _ | exact cd' _ _
   case hy => first | exact stands_like | exact stands_self hs | exact ss _ _ | exact cs' _ _ | exact falses_rows _
   case hv => first | exact fun _ => rfl | exact lb_den
   case hz => first | exact stands_nils | exact stands_like)
  all_goals (clear n1 n2 n3 n5 n6 n7 n8 n9 n10 n12 sd ss cd' cs' b2 hd hs)
  all_goals (simp only [collGo, gt_iff_lt, ge_iff_le, decide_eq_true_eq, decide_eq_false_iff_not, bne_iff_ne, ne_eq, bne_eq_false_iff_eq, Bool.not_eq_true', Bool.not_eq_false', Decidable.not_not] at *)
  all_goals (cases g <;> cases al <;> (try simp only [reduceCtorEq] at *) <;> (repeat' split) <;> first | rfl | (exfalso; omega) | (exfalso; simp only [and_true, and_false, or_true, or_false, not_true, not_false_iff] at *; done) | (exfalso; simp only [and_true, and_false, or_true, or_false] at *; omega) | skip)
end Go.Proofs.Ytoechplbhbalaaa
end
section
open Go Go.Proofs Sx
namespace Go.Proofs.Ytoechplbhbalaaa
set_option maxRecDepth 100000
set_option maxHeartbeats 0
section
variable {w : World} {H : HV} {n r p dl : Int} {v : Bool} {d s : D} {res : Co × List Msg}

theorem all_snoc {l : List Bool} {j : Nat} (h : j < l.length) : (l.take (j + 1)).all id = ((l.take j).all id && l[j]) := by
 rw [List.take_succ_eq_append_getElem h, List.all_append]; simp

theorem seen62 (hd : d.Is Int) (hs : s.Is Bool) (hn : 1 ≤ n ∧ n ≤ 8) (hl : (s.to Bool).length ≤ 1048575)
  (hres : res = if (s.to Bool).all id = true then (⟨n, r, 2, dl, d.to Int, List.replicate n.toNat false, v⟩, msgsTo n r 3) else (⟨n, r, p, dl, d.to Int, s.to Bool, v⟩, [])) :
  Runs Try.prog ⟨w, H⟩ (seenC fr62 n r p dl (.bool v) d s) (RetD w H fun ds => .tup [coSV (ds 0) (ds 1) res.1, .dat ((ds 2).like res.2)]) := by
 apply goS_sound ctMOk (fun _ => false) [(83, 15)] 800
 rw [sn62_in]
 have hl2 := D.Is.length (α := Bool) s
 refine runs_loop (fun q : Nat × Nat × Nat => seenL fr62l n r p dl (.bool v) d s q.2.1 q.2.2 q.1)
  (fun q => q.1 ≤ (s.to Bool).length ∧ q.2.1 ≤ q.1 ∧ q.2.2 ≤ q.1 ∧ (q.2.1 = 0 ↔ ((s.to Bool).take q.1).all id = true)) (fun q => (s.to Bool).length - q.1) (fun _ => rfl) ?_ (0, 0, 0) ⟨Nat.zero_le _, Nat.le_refl _, Nat.le_refl _, by simp⟩
 intro ⟨j, x, y⟩ ⟨h1, h2, h3, h4⟩ ih
 simp only at h1 h2 h3 h4
 apply goS_sound ctMOk (fun _ => false) [(83, 15)] 800
 rw [sl62_go]
 refine ⟨fun hc => ?_, fun hc => ?_⟩
 ·simp [hl2] at hc
  obtain ⟨c1, c2, c3⟩ := bool_at hs hc
  rw [c3]
  refine ⟨c1, ⟨c2, c1.2.2⟩, fun hb => ⟨by omega, by omega, ?_⟩, fun hb => ⟨by omega, by omega, ?_⟩⟩
  ·have := ih (j + 1, x, y + 1) ⟨hc, by simp only; omega, by simp only; omega, by rw [all_snoc hc, hb, Bool.and_true]; exact h4⟩ (by simp only; omega)
   simp only at this
   rw [← wrap_succ hc (by omega), ← wrap_succ (n := (s.to Bool).length) (by omega) (by omega)] at this
   exact this
  ·have := ih (j + 1, x + 1, y) ⟨hc, by simp only; omega, by simp only; omega, by rw [all_snoc hc, hb, Bool.and_false]; simp⟩ (by simp only; omega)
   simp only at this
   rw [← wrap_succ hc (by omega), ← wrap_succ (n := (s.to Bool).length) (by omega) (by omega)] at this
   exact this
 ·simp [hl2] at hc
  have : j = (s.to Bool).length := by omega
  subst this
  rw [List.take_length] at h4
  refine ⟨by omega, fun hx => ?_, fun hx hs1 => ⟨⟨by omega, rfl, by omega, by omega⟩, by omega, fun hs2 => ?_⟩⟩
  ·have hx : ¬ x = 0 := by simpa using hx
   exact ret_co2 (stands_self hd) (stands_self hs) (fun _ => rfl) stands_nils (by rw [hres, if_neg (fun h => hx (h4.2 h))])
  ·have hx : x = 0 := by simpa using hx
   exact ret_co2 (stands_self hd) (falses_rows _) (fun _ => rfl) stands_like (by rw [hres, if_pos (h4.1 hx)])

theorem seen63 (hd : d.Is Int) (hs : s.Is Bool) (hl : (s.to Bool).length ≤ 1048575)
  (hres : res = if (s.to Bool).all id = true then (⟨n, r, 0, dl, d.to Int, s.to Bool, true⟩, []) else (⟨n, r, p, dl, d.to Int, s.to Bool, v⟩, [])) :
  Runs Try.prog ⟨w, H⟩ (seenC fr63 n r p dl (.bool v) d s) (RetD w H fun ds => .tup [coSV (ds 0) (ds 1) res.1, .dat ((ds 2).like res.2)]) := by
 apply goS_sound ctMOk (fun _ => false) [(83, 15)] 800
 rw [sn63_in]
 have hl2 := D.Is.length (α := Bool) s
 refine runs_loop (fun q : Nat × Nat × Nat => seenL fr63l n r p dl (.bool v) d s q.2.1 q.2.2 q.1)
  (fun q => q.1 ≤ (s.to Bool).length ∧ q.2.1 ≤ q.1 ∧ q.2.2 ≤ q.1 ∧ (q.2.1 = 0 ↔ ((s.to Bool).take q.1).all id = true)) (fun q => (s.to Bool).length - q.1) (fun _ => rfl) ?_ (0, 0, 0) ⟨Nat.zero_le _, Nat.le_refl _, Nat.le_refl _, by simp⟩
 intro ⟨j, x, y⟩ ⟨h1, h2, h3, h4⟩ ih
 simp only at h1 h2 h3 h4
 apply goS_sound ctMOk (fun _ => false) [(83, 15)] 800
 rw [sl63_go]
 refine ⟨fun hc => ?_, fun hc => ?_⟩
 ·simp [hl2] at hc
  obtain ⟨c1, c2, c3⟩ := bool_at hs hc
  rw [c3]
  refine ⟨c1, ⟨c2, c1.2.2⟩, fun hb => ⟨by omega, by omega, ?_⟩, fun hb => ⟨by omega, by omega, ?_⟩⟩
  ·have := ih (j + 1, x, y + 1) ⟨hc, by simp only; omega, by simp only; omega, by rw [all_snoc hc, hb, Bool.and_true]; exact h4⟩ (by simp only; omega)
   simp only at this
   rw [← wrap_succ hc (by omega), ← wrap_succ (n := (s.to Bool).length) (by omega) (by omega)] at this
   exact this
  ·have := ih (j + 1, x + 1, y) ⟨hc, by simp only; omega, by simp only; omega, by rw [all_snoc hc, hb, Bool.and_false]; simp⟩ (by simp only; omega)
   simp only at this
   rw [← wrap_succ hc (by omega), ← wrap_succ (n := (s.to Bool).length) (by omega) (by omega)] at this
   exact this
 ·simp [hl2] at hc
  have : j = (s.to Bool).length := by omega
  subst this
  rw [List.take_length] at h4
  refine ⟨by omega, fun hx => ?_, fun hx => ?_⟩
  ·have hx : x = 0 := by simpa using hx
   exact ret_co2 (stands_self hd) (stands_self hs) lb_den stands_nils (by rw [hres, if_pos (h4.1 hx)])
  ·have hx : ¬ x = 0 := by simpa using hx
   exact ret_co2 (stands_self hd) (stands_self hs) (fun _ => rfl) stands_nils (by rw [hres, if_neg (fun h => hx (h4.2 h))])

theorem frz_run (hd : d.Is Int) (hs : s.Is Bool) {mk mf mto mn mv me : Int} {ml mb : D} (hn : 1 ≤ n ∧ n ≤ 8) (l1 : ((d.to Int).length : Int) = n) (l2 : ((s.to Bool).length : Int) = n) (hf : 0 ≤ mf ∧ mf < n) (hk : mk = 2)
  (hres : res = collGo ⟨n, r, p, dl, d.to Int, s.to Bool, v⟩ ⟨mk, mf, mto, mn, mv, me, ml.to Int, mb.to Byte⟩ ((s.to Bool).getD mf.toNat true) (((s.to Bool).set mf.toNat true).all id)) :
  Runs Try.prog ⟨w, H⟩ (frzC n r p dl (.bool v) d s mk mf mto mn mv me ml mb) (RetD w H fun ds => .tup [coSV (ds 0) (ds 1) res.1, .dat ((ds 2).like res.2)]) := by
 have hi : mf.toNat < (s.to Bool).length := by omega
 have hi' : mf.toNat < (d.to Int).length := by omega
 have k1 := D.Is.length (α := Int) d
 have k2 := D.Is.length (α := Bool) s
 obtain ⟨b1, b2⟩ := bool_cell hs hi
 have hg : (s.to Bool).getD mf.toNat true = (s.to Bool)[mf.toNat] := by simp [hi]
 apply goS_sound ctMOk (fun _ => false) [(83, 15)] 800
 rw [frz_go, b1]
 have bad : (p ≠ 1 ∨ mv < 0 ∨ mv > 4096 ∨ (s.to Bool)[mf.toNat] = true) → res = (⟨n, r, p, dl, d.to Int, s.to Bool, v⟩, []) := fun h => by
  rw [hres, collGo, if_pos hk, hg, if_pos h]
 have n3 : 0 ≤ mf ∧ mf < (s.len : Int) ∧ s.sz = 1 := ⟨by omega, by omega, hs.size hi⟩
 have n3' : 0 ≤ mf ∧ mf < (d.len : Int) ∧ d.sz = 1 := ⟨by omega, by omega, hd.size hi'⟩
 have n4 : s.HasCell (Int.toNat mf) 0 .bool ∧ s.sz = 1 := ⟨b2, n3.2.2⟩
 have n5 : Int.toNat mf < s.len ∧ 1 ≤ s.sz ∧ s.sz = 1 := ⟨by omega, by omega, n3.2.2⟩
 have n5' : Int.toNat mf < d.len ∧ 1 ≤ d.sz ∧ d.sz = 1 := ⟨by omega, by omega, n3'.2.2⟩
 obtain ⟨dS, dT⟩ := set_one (c := .int .i64 mv) (x := mv) hd hi' rfl ⟨_, rfl⟩ rfl
 obtain ⟨sS, sT⟩ := set_one (c := .bool true) (x := true) hs hi rfl ⟨_, rfl⟩ rfl
 intro hs0
 refine ⟨fun h1 => ?_, fun h1 => ⟨fun h2 => ?_, fun h2 => ⟨fun h3 => ?_, fun h3 => ?_⟩⟩⟩
 ·repeat' first | refine ⟨by assumption, ?_⟩ | fail
  simp only [bne_iff_ne] at h1
  exact ret_co2 (stands_self hd) (stands_self hs) (fun _ => rfl) stands_nils (bad (.inl h1))
 ·repeat' first | refine ⟨by assumption, ?_⟩ | fail
  simp only [decide_eq_true_eq] at h2
  exact ret_co2 (stands_self hd) (stands_self hs) (fun _ => rfl) stands_nils (bad (.inr (.inl h2)))
 ·repeat' first | refine ⟨by assumption, ?_⟩ | fail
  simp only [decide_eq_true_eq] at h3
  exact ret_co2 (stands_self hd) (stands_self hs) (fun _ => rfl) stands_nils (bad (.inr (.inr (.inl h3))))
 ·repeat' first | refine ⟨by assumption, ?_⟩ | fail
  refine ⟨fun h4 => ?_, fun h4 hs1 => ⟨n3', n5', n3, n5, ?_⟩⟩
  ·exact ret_co2 (stands_self hd) (stands_self hs) (fun _ => rfl) stands_nils (bad (.inr (.inr (.inr h4))))
  ·refine seen62 dS sS hn (by rw [sT, List.length_set]; omega) ?_
   rw [hres, collGo, if_pos hk, hg]
   simp only [bne_eq_false_iff_eq] at h1
   simp only [decide_eq_false_iff_not] at h2 h3
   rw [if_neg (by rw [h4]; simp only [ne_eq, h1]; simp; omega), dT, sT]

theorem thw_run (hd : d.Is Int) (hs : s.Is Bool) {mk mf mto mn mv me : Int} {ml mb : D} (hn : 1 ≤ n ∧ n ≤ 8) (l2 : ((s.to Bool).length : Int) = n) (hf : 0 ≤ mf ∧ mf < n) (hk2 : ¬mk = 2) (hk : mk = 4) {g : Bool}
  (hres : res = collGo ⟨n, r, p, dl, d.to Int, s.to Bool, v⟩ ⟨mk, mf, mto, mn, mv, me, ml.to Int, mb.to Byte⟩ g (((s.to Bool).set mf.toNat true).all id)) :
  Runs Try.prog ⟨w, H⟩ (thwC n r p dl (.bool v) d s mk mf mto mn mv me ml mb) (RetD w H fun ds => .tup [coSV (ds 0) (ds 1) res.1, .dat ((ds 2).like res.2)]) := by
 have hi : mf.toNat < (s.to Bool).length := by omega
 have k2 := D.Is.length (α := Bool) s
 apply goS_sound ctMOk (fun _ => false) [(83, 15)] 800
 rw [thw_go]
 have n3 : 0 ≤ mf ∧ mf < (s.len : Int) ∧ s.sz = 1 := ⟨by omega, by omega, hs.size hi⟩
 have n5 : Int.toNat mf < s.len ∧ 1 ≤ s.sz ∧ s.sz = 1 := ⟨by omega, by omega, n3.2.2⟩
 obtain ⟨sS, sT⟩ := set_one (c := .bool true) (x := true) hs hi rfl ⟨_, rfl⟩ rfl
 refine ⟨fun h1 => ?_, fun h1 => ⟨fun h2 => ⟨by omega, fun hs1 => ?_⟩, fun h2 => ⟨n3, n5, ?_⟩⟩⟩
 ·simp only [bne_iff_ne] at h1
  exact ret_co2 (stands_self hd) (stands_self hs) (fun _ => rfl) stands_nils (by rw [hres, collGo, if_neg hk2, if_pos hk, if_pos h1])
 ·simp only [bne_iff_ne] at h2
  simp only [bne_eq_false_iff_eq] at h1
  exact ret_co2 (stands_self hd) (stands_self hs) lb_den stands_like (by rw [hres, collGo, if_neg hk2, if_pos hk, if_neg (not_not_intro h1), if_pos h2])
 ·simp only [bne_eq_false_iff_eq] at h1 h2
  refine seen63 hd sS (by rw [sT, List.length_set]; omega) ?_
  rw [hres, collGo, if_neg hk2, if_pos hk, if_neg (not_not_intro h1), if_neg (not_not_intro h2), sT]
end

theorem lawColl1 : Law Try.prog 27 ((rdCo.three rdInt rdMsg).sp spColl) := by
 refine law_in _ (by kernel_rfl) fun H w ⟨⟨n, r, p, dl, d, s, v⟩, now, ⟨mk, mf, mto, mn, mv, me, ml, mb⟩⟩ hok hp => ?_
 obtain ⟨hd, hs⟩ := hp _ (List.mem_singleton.2 rfl)
 simp only at hd hs
 clear hp hok
 apply goS_sound ctMOk (fun _ => false) [(62, 3), (63, 3), (83, 15)] 800
 rw [show (rdCo.three rdInt rdMsg).canon (⟨n, r, p, dl, d, s, v⟩, now, ⟨mk, mf, mto, mn, mv, me, ml, mb⟩) = [.agg [.int .i64 n, .int .i64 r, .int .i64 p, .int .i64 dl, .dat d, .dat s, .bool v], .int .i64 now, .agg [.int .i64 mk, .int .i64 mf, .int .i64 mto, .int .i64 mn, .int .i64 mv, .int .i64 me, .dat ml, .dat mb]] from rfl, coll1_in]
 have bad : (¬checkCo ⟨n, r, p, dl, d.to Int, s.to Bool, v⟩ = 0 ∨ p = 0 ∨ now ≥ dl ∨ mf < 0 ∨ mf ≥ n ∨ ¬mn = r) → (Tree.ret (.tup [.agg [.int .i64 n, .int .i64 r, .int .i64 p, .int .i64 dl, .dat d, .dat s, .bool v], .nils])).holds Try.prog ⟨w, H⟩ (RetD w H fun ds =>
   .tup [coSV (ds 0) (ds 1) (collectCo ⟨n, r, p, dl, d.to Int, s.to Bool, v⟩ now ⟨mk, mf, mto, mn, mv, me, ml.to Int, mb.to Byte⟩).1, .dat ((ds 2).like (collectCo ⟨n, r, p, dl, d.to Int, s.to Bool, v⟩ now ⟨mk, mf, mto, mn, mv, me, ml.to Int, mb.to Byte⟩).2)]) :=
  fun h => ret_co2 (stands_self hd) (stands_self hs) (fun _ => rfl) stands_nils (coll_bad h)
 refine ⟨⟨hd, hs⟩, fun h1 => ?_, fun h1 => ⟨fun h2 => ?_, fun h2 => ⟨fun h3 => ?_, fun h3 => ⟨fun h4 => ?_, fun h4 => ⟨fun h5 => ?_, fun h5 => ⟨fun h6 => ?_, fun h6 hs0 => ?_⟩⟩⟩⟩⟩⟩
 ·simp only [bne_iff_ne, ne_eq] at h1
  exact bad (.inl h1)
 ·simp only [decide_eq_true_eq] at h2
  exact bad (.inr (.inl h2))
 ·simp only [decide_eq_true_eq] at h3
  exact bad (.inr (.inr (.inl h3)))
 ·simp only [decide_eq_true_eq] at h4
  exact bad (.inr (.inr (.inr (.inl h4))))
 ·simp only [decide_eq_true_eq] at h5
  exact bad (.inr (.inr (.inr (.inr (.inl h5)))))
 ·simp only [bne_iff_ne, ne_eq] at h6
  exact bad (.inr (.inr (.inr (.inr (.inr h6)))))
 ·simp only [bne_eq_false_iff_eq] at h1 h6
  simp only [decide_eq_false_iff_not] at h2 h3 h4 h5
  have hck : checkCo ⟨n, r, p, dl, d.to Int, s.to Bool, v⟩ = 0 := h1
  clear h1
  have hz := checkCo_zero.1 hck
  have l1 := D.Is.length (α := Int) d
  have l2 := D.Is.length (α := Bool) s
  have E0 : collectCo ⟨n, r, p, dl, d.to Int, s.to Bool, v⟩ now ⟨mk, mf, mto, mn, mv, me, ml.to Int, mb.to Byte⟩ = collGo ⟨n, r, p, dl, d.to Int, s.to Bool, v⟩ ⟨mk, mf, mto, mn, mv, me, ml.to Int, mb.to Byte⟩ ((s.to Bool).getD mf.toNat true) (((s.to Bool).set mf.toNat true).all id) :=
   coll_go (by simp only [hck, not_true_eq_false, false_or]; omega) rfl rfl
  obtain ⟨dI, dT⟩ := is_of (h := D.hd (hs0 2 0)) (s := 1) rfl (rows_of hd)
  obtain ⟨sI, sT⟩ := is_of (h := D.hd (hs0 5 0)) (s := 1) rfl (rows_of hs)
  refine ⟨⟨hd, by omega⟩, ⟨hs, by omega⟩, fun k1 => ?_, fun k1 => ⟨fun k2 => ?_, fun k2 => ?_⟩⟩
  ·simp only [decide_eq_true_eq] at k1
   exact frz_run dI sI hz.1 (by rw [dT]; exact hz.2.2.2.2.1) (by rw [sT]; exact hz.2.2.2.2.2.1) (by omega) k1 (by rw [dT, sT]; exact E0)
  ·simp only [decide_eq_true_eq] at k2
   simp only [decide_eq_false_iff_not] at k1
   exact thw_run dI sI hz.1 (by rw [sT]; exact hz.2.2.2.2.2.1) (by omega) k1 k2 (by rw [dT, sT]; exact E0)
  ·simp only [decide_eq_false_iff_not] at k1 k2
   exact ret_co2 (stands_self hd) (stands_self hs) (fun _ => rfl) stands_nils (by rw [show (CoD.mk n r p dl d s v).co = ⟨n, r, p, dl, d.to Int, s.to Bool, v⟩ from rfl]; exact E0.trans (by rw [collGo, if_neg k1, if_neg k2]))
end Go.Proofs.Ytoechplbhbalaaa
end
section
open Go Go.Proofs Sx
namespace Go.Proofs.Ytoechplbhbalaaa
set_option maxRecDepth 100000
set_option maxHeartbeats 0
noncomputable def grZero : List SV := [.int .i64 0, .int .i64 0, .int .i64 0, .int .i64 0, .nils, .nils, .lb false, .int .i64 0, .int .i64 0, .int .i64 0, .int .i64 0, .lb false, .int .i64 0, .nils, .nils, .int .i64 0, .int .i64 0, .int .i64 0, .int .i64 0, .lb false, .int .i64 0, .nils, .nils, .int .i64 0, .int .i64 0, .int .i64 0, .int .i64 0, .lb false, .int .i64 0, .nils, .nils, .nils, .nils, .nils, .nils, .int .i64 0, .int .i64 0, .lb false, .int .i64 0]
noncomputable def ackL00 (cn cr cp cdl : Int) (cps css : D) (cv : Bool) (p1 p2 p3 p4 : Int) (pf : Bool) (p6 : Int) (pw ph : D) (q1 q2 q3 q4 : Int) (qf : Bool) (q6 : Int) (qw qh : D) (r1 r2 r3 r4 : Int) (rf : Bool) (r6 : Int) (rw rh : D) (fl wa wb wc : D) (now clk : Int) (rt : Bool) (st : Int) (l : D) (j : Int) : Conf := Conf.mk (SFrm.mk 78 none none [Item.inLoop (cAt Try.prog 78 [1, 0, 1, 0, 0]), Item.inBlock 0, Item.code (cAt Try.prog 78 [1, 1])]
 (mkJ 0 [(1, .int .i64 0), (2, .dat l), (3, .ptr 0 0), (6, .ptr 1 0), (7, .int .i64 j)] 0 87)) [] [(0, .cells 97 (cl9 cn cr cp cdl cps css cv p1 p2 p3 p4 pf p6 pw ph q1 q2 q3 q4 qf q6 qw qh r1 r2 r3 r4 rf r6 rw rh fl wa wb wc now clk rt st)), (1, .cells 97 grZero)]
noncomputable def ackL01 (cn cr cp cdl : Int) (cps css : D) (cv : Bool) (p1 p2 p3 p4 : Int) (pf : Bool) (p6 : Int) (pw ph : D) (q1 q2 q3 q4 : Int) (qf : Bool) (q6 : Int) (qw qh : D) (r1 r2 r3 r4 : Int) (rf : Bool) (r6 : Int) (rw rh : D) (fl wa wb wc : D) (now clk : Int) (rt : Bool) (st : Int) (l : D) (j : Int) : Conf := Conf.mk (SFrm.mk 78 none none [Item.inLoop (cAt Try.prog 78 [1, 0, 1, 0, 0]), Item.inBlock 0, Item.code (cAt Try.prog 78 [1, 1])]
 (mkJ 0 [(1, .int .i64 0), (2, .dat l), (3, .ptr 0 0), (6, .ptr 1 0), (7, .int .i64 j)] 0 87)) [] [(0, .cells 97 [.int .i64 cn, .int .i64 cr, .int .i64 cp, .int .i64 cdl, .dat cps, .dat css, .bool cv, .int .i64 p1, .int .i64 p2, .int .i64 p3, .int .i64 p4, .bool pf, .int .i64 p6, .dat pw, .dat ph, .int .i64 q1, .int .i64 q2, .int .i64 q3, .int .i64 q4, .bool qf, .int .i64 q6, .dat qw, .dat qh, .int .i64 r1, .int .i64 r2, .int .i64 r3, .int .i64 r4, .bool rf, .int .i64 r6, .dat rw, .dat rh, .dat fl, .vec 2, .dat wb, .dat wc, .int .i64 now, .int .i64 clk, .bool rt, .int .i64 st]), (1, .cells 97 grZero), (2, .arr 105 wa)]
noncomputable def ackL10 (cn cr cp cdl : Int) (cps css : D) (cv : Bool) (p1 p2 p3 p4 : Int) (pf : Bool) (p6 : Int) (pw ph : D) (q1 q2 q3 q4 : Int) (qf : Bool) (q6 : Int) (qw qh : D) (r1 r2 r3 r4 : Int) (rf : Bool) (r6 : Int) (rw rh : D) (fl wa wb wc : D) (now clk : Int) (rt : Bool) (st : Int) (l : D) (j : Int) : Conf := Conf.mk (SFrm.mk 78 none none [Item.inLoop (cAt Try.prog 78 [1, 0, 1, 0, 0]), Item.inBlock 0, Item.code (cAt Try.prog 78 [1, 1])]
 (mkJ 0 [(1, .int .i64 1), (2, .dat l), (3, .ptr 0 0), (6, .ptr 1 0), (7, .int .i64 j)] 0 87)) [] [(0, .cells 97 (cl9 cn cr cp cdl cps css cv p1 p2 p3 p4 pf p6 pw ph q1 q2 q3 q4 qf q6 qw qh r1 r2 r3 r4 rf r6 rw rh fl wa wb wc now clk rt st)), (1, .cells 97 grZero)]
noncomputable def ackL11 (cn cr cp cdl : Int) (cps css : D) (cv : Bool) (p1 p2 p3 p4 : Int) (pf : Bool) (p6 : Int) (pw ph : D) (q1 q2 q3 q4 : Int) (qf : Bool) (q6 : Int) (qw qh : D) (r1 r2 r3 r4 : Int) (rf : Bool) (r6 : Int) (rw rh : D) (fl wa wb wc : D) (now clk : Int) (rt : Bool) (st : Int) (l : D) (j : Int) : Conf := Conf.mk (SFrm.mk 78 none none [Item.inLoop (cAt Try.prog 78 [1, 0, 1, 0, 0]), Item.inBlock 0, Item.code (cAt Try.prog 78 [1, 1])]
 (mkJ 0 [(1, .int .i64 1), (2, .dat l), (3, .ptr 0 0), (6, .ptr 1 0), (7, .int .i64 j)] 0 87)) [] [(0, .cells 97 [.int .i64 cn, .int .i64 cr, .int .i64 cp, .int .i64 cdl, .dat cps, .dat css, .bool cv, .int .i64 p1, .int .i64 p2, .int .i64 p3, .int .i64 p4, .bool pf, .int .i64 p6, .dat pw, .dat ph, .int .i64 q1, .int .i64 q2, .int .i64 q3, .int .i64 q4, .bool qf, .int .i64 q6, .dat qw, .dat qh, .int .i64 r1, .int .i64 r2, .int .i64 r3, .int .i64 r4, .bool rf, .int .i64 r6, .dat rw, .dat rh, .dat fl, .dat wa, .vec 2, .dat wc, .int .i64 now, .int .i64 clk, .bool rt, .int .i64 st]), (1, .cells 97 grZero), (2, .arr 105 wb)]
noncomputable def ackL20 (cn cr cp cdl : Int) (cps css : D) (cv : Bool) (p1 p2 p3 p4 : Int) (pf : Bool) (p6 : Int) (pw ph : D) (q1 q2 q3 q4 : Int) (qf : Bool) (q6 : Int) (qw qh : D) (r1 r2 r3 r4 : Int) (rf : Bool) (r6 : Int) (rw rh : D) (fl wa wb wc : D) (now clk : Int) (rt : Bool) (st : Int) (l : D) (j : Int) : Conf := Conf.mk (SFrm.mk 78 none none [Item.inLoop (cAt Try.prog 78 [1, 0, 1, 0, 0]), Item.inBlock 0, Item.code (cAt Try.prog 78 [1, 1])]
 (mkJ 0 [(1, .int .i64 2), (2, .dat l), (3, .ptr 0 0), (6, .ptr 1 0), (7, .int .i64 j)] 0 87)) [] [(0, .cells 97 (cl9 cn cr cp cdl cps css cv p1 p2 p3 p4 pf p6 pw ph q1 q2 q3 q4 qf q6 qw qh r1 r2 r3 r4 rf r6 rw rh fl wa wb wc now clk rt st)), (1, .cells 97 grZero)]
noncomputable def ackL21 (cn cr cp cdl : Int) (cps css : D) (cv : Bool) (p1 p2 p3 p4 : Int) (pf : Bool) (p6 : Int) (pw ph : D) (q1 q2 q3 q4 : Int) (qf : Bool) (q6 : Int) (qw qh : D) (r1 r2 r3 r4 : Int) (rf : Bool) (r6 : Int) (rw rh : D) (fl wa wb wc : D) (now clk : Int) (rt : Bool) (st : Int) (l : D) (j : Int) : Conf := Conf.mk (SFrm.mk 78 none none [Item.inLoop (cAt Try.prog 78 [1, 0, 1, 0, 0]), Item.inBlock 0, Item.code (cAt Try.prog 78 [1, 1])]
 (mkJ 0 [(1, .int .i64 2), (2, .dat l), (3, .ptr 0 0), (6, .ptr 1 0), (7, .int .i64 j)] 0 87)) [] [(0, .cells 97 [.int .i64 cn, .int .i64 cr, .int .i64 cp, .int .i64 cdl, .dat cps, .dat css, .bool cv, .int .i64 p1, .int .i64 p2, .int .i64 p3, .int .i64 p4, .bool pf, .int .i64 p6, .dat pw, .dat ph, .int .i64 q1, .int .i64 q2, .int .i64 q3, .int .i64 q4, .bool qf, .int .i64 q6, .dat qw, .dat qh, .int .i64 r1, .int .i64 r2, .int .i64 r3, .int .i64 r4, .bool rf, .int .i64 r6, .dat rw, .dat rh, .dat fl, .dat wa, .dat wb, .vec 2, .int .i64 now, .int .i64 clk, .bool rt, .int .i64 st]), (1, .cells 97 grZero), (2, .arr 105 wc)]
section
variable (cn cr cp cdl : Int) (cps css : D) (cv : Bool) (p1 p2 p3 p4 : Int) (pf : Bool) (p6 : Int) (pw ph : D) (q1 q2 q3 q4 : Int) (qf : Bool) (q6 : Int) (qw qh : D) (r1 r2 r3 r4 : Int) (rf : Bool) (r6 : Int) (rw rh : D) (fl wa wb wc : D) (now clk : Int) (rt : Bool) (st : Int) (l : D) (j : Int)
theorem ackin0 : exec Try.prog [] 300 (entry Try.prog 78 [.agg (cl9 cn cr cp cdl cps css cv p1 p2 p3 p4 pf p6 pw ph q1 q2 q3 q4 qf q6 qw qh r1 r2 r3 r4 rf r6 rw rh fl wa wb wc now clk rt st), .int .i64 0, .dat l]) =
 Tree.leaf
 (Conf.mk
 (SFrm.mk 78 none none
 [Item.inLoop (cAt Try.prog 78 [1, 0, 1, 0, 0]), Item.inBlock 0, Item.code (cAt Try.prog 78 [1, 1])]
 (mkJ 0 [(1, .int .i64 0), (2, .dat l), (3, .ptr 0 0), (6, .ptr 1 0), (7, .int .i64 0)] 0
 87))
 []
 [(0,
 OBlk.cells 97
 [.int .i64 cn, .int .i64 cr, .int .i64 cp, .int .i64 cdl, .dat cps,
 .dat css, .bool cv, .int .i64 p1, .int .i64 p2, .int .i64 p3,
 .int .i64 p4, .bool pf, .int .i64 p6, .dat pw, .dat ph, .int .i64 q1,
 .int .i64 q2, .int .i64 q3, .int .i64 q4, .bool qf, .int .i64 q6,
 .dat qw, .dat qh, .int .i64 r1, .int .i64 r2, .int .i64 r3,
 .int .i64 r4, .bool rf, .int .i64 r6, .dat rw, .dat rh, .dat fl, .dat wa,
 .dat wb, .dat wc, .int .i64 now, .int .i64 clk, .bool rt, .int .i64 st]),
 (1,
 OBlk.cells 97
 [.int .i64 0, .int .i64 0, .int .i64 0, .int .i64 0, .nils, .nils,
 .lb false, .int .i64 0, .int .i64 0, .int .i64 0, .int .i64 0,
 .lb false, .int .i64 0, .nils, .nils, .int .i64 0, .int .i64 0,
 .int .i64 0, .int .i64 0, .lb false, .int .i64 0, .nils, .nils,
 .int .i64 0, .int .i64 0, .int .i64 0, .int .i64 0, .lb false,
 .int .i64 0, .nils, .nils, .nils, .nils, .nils, .nils, .int .i64 0,
 .int .i64 0, .lb false, .int .i64 0])]) := by kernel_rfl

theorem ackgo00 : 
 let z2 : Tree := (.ret (.agg [.int .i64 cn, .int .i64 cr, .int .i64 cp, .int .i64 cdl, .dat cps, .dat css, .bool cv, .int .i64 p1, .int .i64 p2, .int .i64 p3, .int .i64 p4, .bool pf, .int .i64 p6, .dat pw, .dat ph, .int .i64 q1, .int .i64 q2, .int .i64 q3, .int .i64 q4, .bool qf, .int .i64 q6, .dat qw, .dat qh, .int .i64 r1, .int .i64 r2, .int .i64 r3, .int .i64 r4, .bool rf, .int .i64 r6, .dat rw, .dat rh, .dat fl, .dat wa, .dat wb, .dat wc, .int .i64 now, .int .i64 clk, .lb false, .int .i64 st]))
 let z3 : List SV := [.int .i64 0, .int .i64 0, .int .i64 0, .int .i64 0, .nils, .nils, .lb false, .int .i64 0, .int .i64 0, .int .i64 0, .int .i64 0, .lb false, .int .i64 0, .nils, .nils, .int .i64 0, .int .i64 0, .int .i64 0, .int .i64 0, .lb false, .int .i64 0, .nils, .nils, .int .i64 0, .int .i64 0, .int .i64 0, .int .i64 0, .lb false, .int .i64 0, .nils, .nils, .nils, .nils, .nils, .nils, .int .i64 0, .int .i64 0, .lb false, .int .i64 0]
 let z4 := (SFrm.mk 78 none none [Item.inLoop (cAt Try.prog 78 [1, 0, 1, 0, 0]), Item.inBlock 0, Item.code (cAt Try.prog 78 [1, 1])] (mkJ 0 [(1, .int .i64 0), (2, .dat l), (3, .ptr 0 0), (6, .ptr 1 0), (7, .int .i64 (IntKind.wrap .i64 (j + 1)))] 0 87))
 let z1 : Tree := (.all fun hs => .need ((0 : Int) ≤ 0 ∧ 0 < (↑3 : Int)) (.need (D.sz (D.slc (D.hd (hs 0 0)) 4 []) = 4 ∧ D.Fits wa 4 ∧ (D.len (D.slc (D.hd (hs 0 0)) 4 []) + D.len wa) * 32 ≤ 140737488355328 ∧ D.len (D.slc (D.hd (hs 0 0)) 4 []) + D.len wa ≤ 9223372036854775807) (.all fun hs_1 => .need ((0 : Int) ≤ 0 ∧ 0 < (↑3 : Int)) (.all fun hs_2 => .need ((0 : Int) ≤ 0 ∧ 0 < (↑3 : Int)) (.need (0 ≤ j ∧ j < (↑(D.len l) : Int) ∧ D.sz l = 1) (.need (D.HasCell l (Int.toNat j) 0 (FT.int .i64)) (.need (0 ≤ D.getInt l (Int.toNat j) 0 ∧ D.getInt l (Int.toNat j) 0 < (↑(D.len (D.slc (D.hd (hs_1 0 0)) 4 (List.append (D.rows (D.slc (D.hd (hs 0 0)) 4 [])) (D.rows wa)))) : Int) ∧ D.sz (D.slc (D.hd (hs_1 0 0)) 4 (List.append (D.rows (D.slc (D.hd (hs 0 0)) 4 [])) (D.rows wa))) = 4) (.need (Int.toNat (D.getInt l (Int.toNat j) 0) < D.len (D.slc (D.hd (hs_1 0 0)) 4 (List.append (D.rows (D.slc (D.hd (hs 0 0)) 4 [])) (D.rows wa))) ∧ 4 ≤ D.sz (D.slc (D.hd (hs_1 0 0)) 4 (List.append (D.rows (D.slc (D.hd (hs 0 0)) 4 [])) (D.rows wa))) ∧ D.sz (D.slc (D.hd (hs_1 0 0)) 4 (List.append (D.rows (D.slc (D.hd (hs 0 0)) 4 [])) (D.rows wa))) = 4) (.leaf (Conf.mk z4 [] [(0, OBlk.cells 97 [.int .i64 cn, .int .i64 cr, .int .i64 cp, .int .i64 cdl, .dat cps, .dat css, .bool cv, .int .i64 p1, .int .i64 p2, .int .i64 p3, .int .i64 p4, .bool pf, .int .i64 p6, .dat pw, .dat ph, .int .i64 q1, .int .i64 q2, .int .i64 q3, .int .i64 q4, .bool qf, .int .i64 q6, .dat qw, .dat qh, .int .i64 r1, .int .i64 r2, .int .i64 r3, .int .i64 r4, .bool rf, .int .i64 r6, .dat rw, .dat rh, .dat fl, .vec 2, .dat wb, .dat wc, .int .i64 now, .int .i64 clk, .lb false, .int .i64 st]), (1, OBlk.cells 97 z3), (2, OBlk.arr 105 (D.setCells (D.slc (D.hd (hs_1 0 0)) 4 (List.append (D.rows (D.slc (D.hd (hs 0 0)) 4 [])) (D.rows wa))) (Int.toNat (D.getInt l (Int.toNat j) 0)) 0 [D.int .i64 (D.getInt wa (Int.toNat (D.getInt l (Int.toNat j) 0)) 0), D.int .i64 clk, D.int .i64 (D.getInt wa (Int.toNat (D.getInt l (Int.toNat j) 0)) 2), D.int .i64 (IntKind.wrap .i64 (D.getInt wa (Int.toNat (D.getInt l (Int.toNat j) 0)) 3 + 1))]))]))))))))))
 exec Try.prog [] 400 (unroll (ackL00 cn cr cp cdl cps css cv p1 p2 p3 p4 pf p6 pw ph q1 q2 q3 q4 qf q6 qw qh r1 r2 r3 r4 rf r6 rw rh fl wa wb wc now clk rt st l j)) =
 Tree.br (decide (j < (↑(D.len l) : Int))) (.all fun hs => .br (decide (D.getInt l (Int.toNat j) 0 < 0)) (.need (0 ≤ j ∧ j < (↑(D.len l) : Int) ∧ D.sz l = 1) (.need (D.HasCell l (Int.toNat j) 0 (FT.int .i64))
 (.need (decide (D.getInt l (Int.toNat j) 0 < 0) = true) (.need (decide (D.getInt l (Int.toNat j) 0 < 0) = true) (.need (decide (D.getInt l (Int.toNat j) 0 < 0) = true) (.need (decide (D.getInt l (Int.toNat j) 0 < 0) = true)
 (.need (decide (D.getInt l (Int.toNat j) 0 < 0) = true) (.need (decide (D.getInt l (Int.toNat j) 0 < 0) = true) (.need (decide (D.getInt l (Int.toNat j) 0 < 0) = true) (.need (decide (D.getInt l (Int.toNat j) 0 < 0) = true)
 (.need (decide (D.getInt l (Int.toNat j) 0 < 0) = true) (.need (decide (D.getInt l (Int.toNat j) 0 < 0) = true) (.need (decide (D.getInt l (Int.toNat j) 0 < 0) = true) z2))))))))))))) (.need (0 ≤ j ∧ j <
 (↑(D.len l) : Int) ∧ D.sz l = 1) (.need (D.HasCell l (Int.toNat j) 0 (FT.int .i64)) (.need (decide (D.getInt l (Int.toNat j) 0 < 0) = false) (.need (decide (D.getInt l (Int.toNat j) 0 < 0) = false) (.need
 (decide (D.getInt l (Int.toNat j) 0 < 0) = false) (.need (0 ≤ j ∧ j < (↑(D.len l) : Int) ∧ D.sz l = 1) (.need (decide (D.getInt l (Int.toNat j) 0 < 0) = false) (.need (D.HasCell l (Int.toNat j) 0 (FT.int .i64))
 (.need (decide (D.getInt l (Int.toNat j) 0 < 0) = false) (.need (decide (D.getInt l (Int.toNat j) 0 < 0) = false) (.need (decide (D.getInt l (Int.toNat j) 0 < 0) = false) (.need ((0 : Int) ≤ 0 ∧ 0 < (↑3 : Int))
 (.need (decide (D.getInt l (Int.toNat j) 0 < 0) = false) (.need (decide (D.getInt l (Int.toNat j) 0 < 0) = false) (.need (decide (D.getInt l (Int.toNat j) 0 < 0) = false) (.need (decide (D.getInt l (Int.toNat j) 0 < 0) = false)
 (.br (decide (D.getInt l (Int.toNat j) 0 ≥ (↑(D.len wa) : Int))) z2 (.all fun hs => .need ((0 : Int) ≤ 0 ∧ 0 < (↑3 : Int)) (.need (0 ≤ j ∧ j < (↑(D.len l) : Int) ∧ D.sz l = 1) (.need (D.HasCell l (Int.toNat j) 0
 (FT.int .i64)) (.need (0 ≤ D.getInt l (Int.toNat j) 0 ∧ D.getInt l (Int.toNat j) 0 < (↑(D.len wa) : Int) ∧ D.sz wa = 4) (.need (D.HasCells wa (Int.toNat (D.getInt l (Int.toNat j) 0)) 0 [FT.int .i64, FT.int .i64, FT.int .i64, FT.int .i64])
 (.br (decide (D.getInt wa (Int.toNat (D.getInt l (Int.toNat j) 0)) 2 = 0)) z1 (.br (decide (IntKind.wrap .i64 (D.getInt wa (Int.toNat (D.getInt l (Int.toNat j) 0)) 3 + 1) > 1)) z1 (.need ((0 : Int) ≤ 0 ∧ 0 <
 (↑3 : Int)) (.br pf z1 (.all fun hs => .need ((0 : Int) ≤ 0 ∧ 0 < (↑3 : Int)) (.need (D.sz (D.slc (D.hd (hs 0 0)) 4 []) = 4 ∧ D.Fits wa 4 ∧ (D.len (D.slc (D.hd (hs 0 0)) 4 []) + D.len wa) * 32 ≤ 140737488355328 ∧ D.len
 (D.slc (D.hd (hs 0 0)) 4 []) + D.len wa ≤ 9223372036854775807) (.all fun hs_1 => .need ((0 : Int) ≤ 0 ∧ 0 < (↑3 : Int)) (.all fun hs_2 => .need ((0 : Int) ≤ 0 ∧ 0 < (↑3 : Int)) (.need (0 ≤ j ∧ j < (↑(D.len l) : Int) ∧ D.sz l = 1)
 (.need (D.HasCell l (Int.toNat j) 0 (FT.int .i64)) (.need (0 ≤ D.getInt l (Int.toNat j) 0 ∧ D.getInt l (Int.toNat j) 0 < (↑(D.len (D.slc (D.hd (hs_1 0 0)) 4 (List.append (D.rows (D.slc (D.hd (hs 0 0)) 4 []))
 (D.rows wa)))) : Int) ∧ D.sz (D.slc (D.hd (hs_1 0 0)) 4 (List.append (D.rows (D.slc (D.hd (hs 0 0)) 4 [])) (D.rows wa))) = 4) (.need (Int.toNat (D.getInt l (Int.toNat j) 0) < D.len (D.slc (D.hd (hs_1 0 0)) 4
 (List.append (D.rows (D.slc (D.hd (hs 0 0)) 4 [])) (D.rows wa))) ∧ 4 ≤ D.sz (D.slc (D.hd (hs_1 0 0)) 4 (List.append (D.rows (D.slc (D.hd (hs 0 0)) 4 [])) (D.rows wa))) ∧ D.sz (D.slc (D.hd (hs_1 0 0)) 4
 (List.append (D.rows (D.slc (D.hd (hs 0 0)) 4 [])) (D.rows wa))) = 4) (.leaf (Conf.mk z4 [] [(0, OBlk.cells 97 [.int .i64 cn, .int .i64 cr, .int .i64 cp, .int .i64 cdl, .dat cps, .dat css, .bool cv, .int .i64 p1, .int .i64 p2, .int .i64 p3, .int .i64 p4, .bool pf, .int .i64 p6, .dat pw, .dat ph, .int .i64 q1, .int .i64 q2, .int .i64 q3, .int .i64 q4, .bool qf, .int .i64 q6, .dat qw, .dat qh, .int .i64 r1, .int .i64 r2, .int .i64 r3, .int .i64 r4, .bool rf, .int .i64 r6, .dat rw, .dat rh, .dat fl, .vec 2, .dat wb, .dat wc, .int .i64 now, .int .i64 clk, .bool rt, .int .i64 st]),
 (1, OBlk.cells 97 z3), (2, OBlk.arr 105 (D.setCells (D.slc (D.hd (hs_1 0 0)) 4 (List.append (D.rows (D.slc (D.hd (hs 0 0)) 4 [])) (D.rows wa))) (Int.toNat (D.getInt l (Int.toNat j) 0)) 0 [D.int .i64 (D.getInt wa
 (Int.toNat (D.getInt l (Int.toNat j) 0)) 0), D.int .i64 clk, D.int .i64 (D.getInt wa (Int.toNat (D.getInt l (Int.toNat j) 0)) 2), D.int .i64 (IntKind.wrap .i64 (D.getInt wa (Int.toNat (D.getInt l (Int.toNat j) 0)) 3 + 1))]))])))))))))))))))))))))))))))))))))))))
 (.ret (.agg [.int .i64 cn, .int .i64 cr, .int .i64 cp, .int .i64 cdl, .dat cps, .dat css, .bool cv, .int .i64 p1, .int .i64 p2, .int .i64 p3, .int .i64 p4, .bool pf, .int .i64 p6, .dat pw, .dat ph, .int .i64 q1, .int .i64 q2, .int .i64 q3, .int .i64 q4, .bool qf, .int .i64 q6, .dat qw, .dat qh, .int .i64 r1, .int .i64 r2, .int .i64 r3, .int .i64 r4, .bool rf, .int .i64 r6, .dat rw, .dat rh, .dat fl, .dat wa, .dat wb, .dat wc, .int .i64 now, .int .i64 clk, .bool rt, .int .i64 st])) := by
 intros; kernel_rfl

theorem ackgo01 : 
 let z2 : Tree := (.ret (.agg [.int .i64 cn, .int .i64 cr, .int .i64 cp, .int .i64 cdl, .dat cps, .dat css, .bool cv, .int .i64 p1, .int .i64 p2, .int .i64 p3, .int .i64 p4, .bool pf, .int .i64 p6, .dat pw, .dat ph, .int .i64 q1, .int .i64 q2, .int .i64 q3, .int .i64 q4, .bool qf, .int .i64 q6, .dat qw, .dat qh, .int .i64 r1, .int .i64 r2, .int .i64 r3, .int .i64 r4, .bool rf, .int .i64 r6, .dat rw, .dat rh, .dat fl, .dat wa, .dat wb, .dat wc, .int .i64 now, .int .i64 clk, .lb false, .int .i64 st]))
 let z3 : List SV := [.int .i64 0, .int .i64 0, .int .i64 0, .int .i64 0, .nils, .nils, .lb false, .int .i64 0, .int .i64 0, .int .i64 0, .int .i64 0, .lb false, .int .i64 0, .nils, .nils, .int .i64 0, .int .i64 0, .int .i64 0, .int .i64 0, .lb false, .int .i64 0, .nils, .nils, .int .i64 0, .int .i64 0, .int .i64 0, .int .i64 0, .lb false, .int .i64 0, .nils, .nils, .nils, .nils, .nils, .nils, .int .i64 0, .int .i64 0, .lb false, .int .i64 0]
 let z4 := (SFrm.mk 78 none none [Item.inLoop (cAt Try.prog 78 [1, 0, 1, 0, 0]), Item.inBlock 0, Item.code (cAt Try.prog 78 [1, 1])] (mkJ 0 [(1, .int .i64 0), (2, .dat l), (3, .ptr 0 0), (6, .ptr 1 0), (7, .int .i64 (IntKind.wrap .i64 (j + 1)))] 0 87))
 let z1 : Tree := (.all fun hs => .need ((0 : Int) ≤ 0 ∧ 0 < (↑3 : Int)) (.need (D.sz (D.slc (D.hd (hs 0 0)) 4 []) = 4 ∧ D.Fits wa 4 ∧ (D.len (D.slc (D.hd (hs 0 0)) 4 []) + D.len wa) * 32 ≤ 140737488355328 ∧ D.len (D.slc (D.hd (hs 0 0)) 4 []) + D.len wa ≤ 9223372036854775807) (.all fun hs_1 => .need ((0 : Int) ≤ 0 ∧ 0 < (↑3 : Int)) (.all fun hs_2 => .need ((0 : Int) ≤ 0 ∧ 0 < (↑3 : Int)) (.need (0 ≤ j ∧ j < (↑(D.len l) : Int) ∧ D.sz l = 1) (.need (D.HasCell l (Int.toNat j) 0 (FT.int .i64)) (.need (0 ≤ D.getInt l (Int.toNat j) 0 ∧ D.getInt l (Int.toNat j) 0 < (↑(D.len (D.slc (D.hd (hs_1 0 0)) 4 (List.append (D.rows (D.slc (D.hd (hs 0 0)) 4 [])) (D.rows wa)))) : Int) ∧ D.sz (D.slc (D.hd (hs_1 0 0)) 4 (List.append (D.rows (D.slc (D.hd (hs 0 0)) 4 [])) (D.rows wa))) = 4) (.need (Int.toNat (D.getInt l (Int.toNat j) 0) < D.len (D.slc (D.hd (hs_1 0 0)) 4 (List.append (D.rows (D.slc (D.hd (hs 0 0)) 4 [])) (D.rows wa))) ∧ 4 ≤ D.sz (D.slc (D.hd (hs_1 0 0)) 4 (List.append (D.rows (D.slc (D.hd (hs 0 0)) 4 [])) (D.rows wa))) ∧ D.sz (D.slc (D.hd (hs_1 0 0)) 4 (List.append (D.rows (D.slc (D.hd (hs 0 0)) 4 [])) (D.rows wa))) = 4) (.leaf (Conf.mk z4 [] [(0, OBlk.cells 97 [.int .i64 cn, .int .i64 cr, .int .i64 cp, .int .i64 cdl, .dat cps, .dat css, .bool cv, .int .i64 p1, .int .i64 p2, .int .i64 p3, .int .i64 p4, .bool pf, .int .i64 p6, .dat pw, .dat ph, .int .i64 q1, .int .i64 q2, .int .i64 q3, .int .i64 q4, .bool qf, .int .i64 q6, .dat qw, .dat qh, .int .i64 r1, .int .i64 r2, .int .i64 r3, .int .i64 r4, .bool rf, .int .i64 r6, .dat rw, .dat rh, .dat fl, .vec 2, .dat wb, .dat wc, .int .i64 now, .int .i64 clk, .lb false, .int .i64 st]), (1, OBlk.cells 97 z3), (2, OBlk.arr 105 (D.setCells (D.slc (D.hd (hs_1 0 0)) 4 (List.append (D.rows (D.slc (D.hd (hs 0 0)) 4 [])) (D.rows wa))) (Int.toNat (D.getInt l (Int.toNat j) 0)) 0 [D.int .i64 (D.getInt wa (Int.toNat (D.getInt l (Int.toNat j) 0)) 0), D.int .i64 clk, D.int .i64 (D.getInt wa (Int.toNat (D.getInt l (Int.toNat j) 0)) 2), D.int .i64 (IntKind.wrap .i64 (D.getInt wa (Int.toNat (D.getInt l (Int.toNat j) 0)) 3 + 1))]))]))))))))))
 exec Try.prog [] 400 (unroll (ackL01 cn cr cp cdl cps css cv p1 p2 p3 p4 pf p6 pw ph q1 q2 q3 q4 qf q6 qw qh r1 r2 r3 r4 rf r6 rw rh fl wa wb wc now clk rt st l j)) =
 Tree.br (decide (j < (↑(D.len l) : Int))) (.all fun hs => .br (decide (D.getInt l (Int.toNat j) 0 < 0)) (.need (0 ≤ j ∧ j < (↑(D.len l) : Int) ∧ D.sz l = 1) (.need (D.HasCell l (Int.toNat j) 0 (FT.int .i64))
 (.need (decide (D.getInt l (Int.toNat j) 0 < 0) = true) (.need (decide (D.getInt l (Int.toNat j) 0 < 0) = true) (.need (decide (D.getInt l (Int.toNat j) 0 < 0) = true) (.need (decide (D.getInt l (Int.toNat j) 0 < 0) = true)
 (.need (decide (D.getInt l (Int.toNat j) 0 < 0) = true) (.need (decide (D.getInt l (Int.toNat j) 0 < 0) = true) (.need (decide (D.getInt l (Int.toNat j) 0 < 0) = true) (.need (decide (D.getInt l (Int.toNat j) 0 < 0) = true)
 (.need (decide (D.getInt l (Int.toNat j) 0 < 0) = true) (.need (decide (D.getInt l (Int.toNat j) 0 < 0) = true) (.need (decide (D.getInt l (Int.toNat j) 0 < 0) = true) z2))))))))))))) (.need (0 ≤ j ∧ j <
 (↑(D.len l) : Int) ∧ D.sz l = 1) (.need (D.HasCell l (Int.toNat j) 0 (FT.int .i64)) (.need (decide (D.getInt l (Int.toNat j) 0 < 0) = false) (.need (decide (D.getInt l (Int.toNat j) 0 < 0) = false) (.need
 (decide (D.getInt l (Int.toNat j) 0 < 0) = false) (.need (0 ≤ j ∧ j < (↑(D.len l) : Int) ∧ D.sz l = 1) (.need (decide (D.getInt l (Int.toNat j) 0 < 0) = false) (.need (D.HasCell l (Int.toNat j) 0 (FT.int .i64))
 (.need (decide (D.getInt l (Int.toNat j) 0 < 0) = false) (.need (decide (D.getInt l (Int.toNat j) 0 < 0) = false) (.need (decide (D.getInt l (Int.toNat j) 0 < 0) = false) (.need ((0 : Int) ≤ 0 ∧ 0 < (↑3 : Int))
 (.need (decide (D.getInt l (Int.toNat j) 0 < 0) = false) (.need (decide (D.getInt l (Int.toNat j) 0 < 0) = false) (.need (decide (D.getInt l (Int.toNat j) 0 < 0) = false) (.need (decide (D.getInt l (Int.toNat j) 0 < 0) = false)
 (.br (decide (D.getInt l (Int.toNat j) 0 ≥ (↑(D.len wa) : Int))) z2 (.all fun hs => .need ((0 : Int) ≤ 0 ∧ 0 < (↑3 : Int)) (.need (0 ≤ j ∧ j < (↑(D.len l) : Int) ∧ D.sz l = 1) (.need (D.HasCell l (Int.toNat j) 0
 (FT.int .i64)) (.need (0 ≤ D.getInt l (Int.toNat j) 0 ∧ D.getInt l (Int.toNat j) 0 < (↑(D.len wa) : Int) ∧ D.sz wa = 4) (.need (D.HasCells wa (Int.toNat (D.getInt l (Int.toNat j) 0)) 0 [FT.int .i64, FT.int .i64, FT.int .i64, FT.int .i64] ∧ D.sz wa = 4)
 (.br (decide (D.getInt wa (Int.toNat (D.getInt l (Int.toNat j) 0)) 2 = 0)) z1 (.br (decide (IntKind.wrap .i64 (D.getInt wa (Int.toNat (D.getInt l (Int.toNat j) 0)) 3 + 1) > 1)) z1 (.need ((0 : Int) ≤ 0 ∧ 0 <
 (↑3 : Int)) (.br pf z1 (.all fun hs => .need ((0 : Int) ≤ 0 ∧ 0 < (↑3 : Int)) (.need (D.sz (D.slc (D.hd (hs 0 0)) 4 []) = 4 ∧ D.Fits wa 4 ∧ (D.len (D.slc (D.hd (hs 0 0)) 4 []) + D.len wa) * 32 ≤ 140737488355328 ∧ D.len
 (D.slc (D.hd (hs 0 0)) 4 []) + D.len wa ≤ 9223372036854775807) (.all fun hs_1 => .need ((0 : Int) ≤ 0 ∧ 0 < (↑3 : Int)) (.all fun hs_2 => .need ((0 : Int) ≤ 0 ∧ 0 < (↑3 : Int)) (.need (0 ≤ j ∧ j < (↑(D.len l) : Int) ∧ D.sz l = 1)
 (.need (D.HasCell l (Int.toNat j) 0 (FT.int .i64)) (.need (0 ≤ D.getInt l (Int.toNat j) 0 ∧ D.getInt l (Int.toNat j) 0 < (↑(D.len (D.slc (D.hd (hs_1 0 0)) 4 (List.append (D.rows (D.slc (D.hd (hs 0 0)) 4 []))
 (D.rows wa)))) : Int) ∧ D.sz (D.slc (D.hd (hs_1 0 0)) 4 (List.append (D.rows (D.slc (D.hd (hs 0 0)) 4 [])) (D.rows wa))) = 4) (.need (Int.toNat (D.getInt l (Int.toNat j) 0) < D.len (D.slc (D.hd (hs_1 0 0)) 4
 (List.append (D.rows (D.slc (D.hd (hs 0 0)) 4 [])) (D.rows wa))) ∧ 4 ≤ D.sz (D.slc (D.hd (hs_1 0 0)) 4 (List.append (D.rows (D.slc (D.hd (hs 0 0)) 4 [])) (D.rows wa))) ∧ D.sz (D.slc (D.hd (hs_1 0 0)) 4
 (List.append (D.rows (D.slc (D.hd (hs 0 0)) 4 [])) (D.rows wa))) = 4) (.leaf (Conf.mk z4 [] [(0, OBlk.cells 97 [.int .i64 cn, .int .i64 cr, .int .i64 cp, .int .i64 cdl, .dat cps, .dat css, .bool cv, .int .i64 p1, .int .i64 p2, .int .i64 p3, .int .i64 p4, .bool pf, .int .i64 p6, .dat pw, .dat ph, .int .i64 q1, .int .i64 q2, .int .i64 q3, .int .i64 q4, .bool qf, .int .i64 q6, .dat qw, .dat qh, .int .i64 r1, .int .i64 r2, .int .i64 r3, .int .i64 r4, .bool rf, .int .i64 r6, .dat rw, .dat rh, .dat fl, .vec 2, .dat wb, .dat wc, .int .i64 now, .int .i64 clk, .bool rt, .int .i64 st]),
 (1, OBlk.cells 97 z3), (2, OBlk.arr 105 (D.setCells (D.slc (D.hd (hs_1 0 0)) 4 (List.append (D.rows (D.slc (D.hd (hs 0 0)) 4 [])) (D.rows wa))) (Int.toNat (D.getInt l (Int.toNat j) 0)) 0 [D.int .i64 (D.getInt wa
 (Int.toNat (D.getInt l (Int.toNat j) 0)) 0), D.int .i64 clk, D.int .i64 (D.getInt wa (Int.toNat (D.getInt l (Int.toNat j) 0)) 2), D.int .i64 (IntKind.wrap .i64 (D.getInt wa (Int.toNat (D.getInt l (Int.toNat j) 0)) 3 + 1))]))])))))))))))))))))))))))))))))))))))))
 (.ret (.agg [.int .i64 cn, .int .i64 cr, .int .i64 cp, .int .i64 cdl, .dat cps, .dat css, .bool cv, .int .i64 p1, .int .i64 p2, .int .i64 p3, .int .i64 p4, .bool pf, .int .i64 p6, .dat pw, .dat ph, .int .i64 q1, .int .i64 q2, .int .i64 q3, .int .i64 q4, .bool qf, .int .i64 q6, .dat qw, .dat qh, .int .i64 r1, .int .i64 r2, .int .i64 r3, .int .i64 r4, .bool rf, .int .i64 r6, .dat rw, .dat rh, .dat fl, .dat wa, .dat wb, .dat wc, .int .i64 now, .int .i64 clk, .bool rt, .int .i64 st])) := by
 intros; kernel_rfl

theorem ackin1 : exec Try.prog [] 300 (entry Try.prog 78 [.agg (cl9 cn cr cp cdl cps css cv p1 p2 p3 p4 pf p6 pw ph q1 q2 q3 q4 qf q6 qw qh r1 r2 r3 r4 rf r6 rw rh fl wa wb wc now clk rt st), .int .i64 1, .dat l]) =
 Tree.leaf
 (Conf.mk
 (SFrm.mk 78 none none
 [Item.inLoop (cAt Try.prog 78 [1, 0, 1, 0, 0]), Item.inBlock 0, Item.code (cAt Try.prog 78 [1, 1])]
 (mkJ 0 [(1, .int .i64 1), (2, .dat l), (3, .ptr 0 0), (6, .ptr 1 0), (7, .int .i64 0)] 0
 87))
 []
 [(0,
 OBlk.cells 97
 [.int .i64 cn, .int .i64 cr, .int .i64 cp, .int .i64 cdl, .dat cps,
 .dat css, .bool cv, .int .i64 p1, .int .i64 p2, .int .i64 p3,
 .int .i64 p4, .bool pf, .int .i64 p6, .dat pw, .dat ph, .int .i64 q1,
 .int .i64 q2, .int .i64 q3, .int .i64 q4, .bool qf, .int .i64 q6,
 .dat qw, .dat qh, .int .i64 r1, .int .i64 r2, .int .i64 r3,
 .int .i64 r4, .bool rf, .int .i64 r6, .dat rw, .dat rh, .dat fl, .dat wa,
 .dat wb, .dat wc, .int .i64 now, .int .i64 clk, .bool rt, .int .i64 st]),
 (1,
 OBlk.cells 97
 [.int .i64 0, .int .i64 0, .int .i64 0, .int .i64 0, .nils, .nils,
 .lb false, .int .i64 0, .int .i64 0, .int .i64 0, .int .i64 0,
 .lb false, .int .i64 0, .nils, .nils, .int .i64 0, .int .i64 0,
 .int .i64 0, .int .i64 0, .lb false, .int .i64 0, .nils, .nils,
 .int .i64 0, .int .i64 0, .int .i64 0, .int .i64 0, .lb false,
 .int .i64 0, .nils, .nils, .nils, .nils, .nils, .nils, .int .i64 0,
 .int .i64 0, .lb false, .int .i64 0])]) := by kernel_rfl

theorem ackgo10 : 
 let z2 : Tree := (.ret (.agg [.int .i64 cn, .int .i64 cr, .int .i64 cp, .int .i64 cdl, .dat cps, .dat css, .bool cv, .int .i64 p1, .int .i64 p2, .int .i64 p3, .int .i64 p4, .bool pf, .int .i64 p6, .dat pw, .dat ph, .int .i64 q1, .int .i64 q2, .int .i64 q3, .int .i64 q4, .bool qf, .int .i64 q6, .dat qw, .dat qh, .int .i64 r1, .int .i64 r2, .int .i64 r3, .int .i64 r4, .bool rf, .int .i64 r6, .dat rw, .dat rh, .dat fl, .dat wa, .dat wb, .dat wc, .int .i64 now, .int .i64 clk, .lb false, .int .i64 st]))
 let z3 : List SV := [.int .i64 0, .int .i64 0, .int .i64 0, .int .i64 0, .nils, .nils, .lb false, .int .i64 0, .int .i64 0, .int .i64 0, .int .i64 0, .lb false, .int .i64 0, .nils, .nils, .int .i64 0, .int .i64 0, .int .i64 0, .int .i64 0, .lb false, .int .i64 0, .nils, .nils, .int .i64 0, .int .i64 0, .int .i64 0, .int .i64 0, .lb false, .int .i64 0, .nils, .nils, .nils, .nils, .nils, .nils, .int .i64 0, .int .i64 0, .lb false, .int .i64 0]
 let z4 := (SFrm.mk 78 none none [Item.inLoop (cAt Try.prog 78 [1, 0, 1, 0, 0]), Item.inBlock 0, Item.code (cAt Try.prog 78 [1, 1])] (mkJ 0 [(1, .int .i64 1), (2, .dat l), (3, .ptr 0 0), (6, .ptr 1 0), (7, .int .i64 (IntKind.wrap .i64 (j + 1)))] 0 87))
 let z1 : Tree := (.all fun hs => .need ((0 : Int) ≤ 1 ∧ 1 < (↑3 : Int)) (.need (D.sz (D.slc (D.hd (hs 0 0)) 4 []) = 4 ∧ D.Fits wb 4 ∧ (D.len (D.slc (D.hd (hs 0 0)) 4 []) + D.len wb) * 32 ≤ 140737488355328 ∧ D.len (D.slc (D.hd (hs 0 0)) 4 []) + D.len wb ≤ 9223372036854775807) (.all fun hs_1 => .need ((0 : Int) ≤ 1 ∧ 1 < (↑3 : Int)) (.all fun hs_2 => .need ((0 : Int) ≤ 1 ∧ 1 < (↑3 : Int)) (.need (0 ≤ j ∧ j < (↑(D.len l) : Int) ∧ D.sz l = 1) (.need (D.HasCell l (Int.toNat j) 0 (FT.int .i64)) (.need (0 ≤ D.getInt l (Int.toNat j) 0 ∧ D.getInt l (Int.toNat j) 0 < (↑(D.len (D.slc (D.hd (hs_1 0 0)) 4 (List.append (D.rows (D.slc (D.hd (hs 0 0)) 4 [])) (D.rows wb)))) : Int) ∧ D.sz (D.slc (D.hd (hs_1 0 0)) 4 (List.append (D.rows (D.slc (D.hd (hs 0 0)) 4 [])) (D.rows wb))) = 4) (.need (Int.toNat (D.getInt l (Int.toNat j) 0) < D.len (D.slc (D.hd (hs_1 0 0)) 4 (List.append (D.rows (D.slc (D.hd (hs 0 0)) 4 [])) (D.rows wb))) ∧ 4 ≤ D.sz (D.slc (D.hd (hs_1 0 0)) 4 (List.append (D.rows (D.slc (D.hd (hs 0 0)) 4 [])) (D.rows wb))) ∧ D.sz (D.slc (D.hd (hs_1 0 0)) 4 (List.append (D.rows (D.slc (D.hd (hs 0 0)) 4 [])) (D.rows wb))) = 4) (.leaf (Conf.mk z4 [] [(0, OBlk.cells 97 [.int .i64 cn, .int .i64 cr, .int .i64 cp, .int .i64 cdl, .dat cps, .dat css, .bool cv, .int .i64 p1, .int .i64 p2, .int .i64 p3, .int .i64 p4, .bool pf, .int .i64 p6, .dat pw, .dat ph, .int .i64 q1, .int .i64 q2, .int .i64 q3, .int .i64 q4, .bool qf, .int .i64 q6, .dat qw, .dat qh, .int .i64 r1, .int .i64 r2, .int .i64 r3, .int .i64 r4, .bool rf, .int .i64 r6, .dat rw, .dat rh, .dat fl, .dat wa, .vec 2, .dat wc, .int .i64 now, .int .i64 clk, .lb false, .int .i64 st]), (1, OBlk.cells 97 z3), (2, OBlk.arr 105 (D.setCells (D.slc (D.hd (hs_1 0 0)) 4 (List.append (D.rows (D.slc (D.hd (hs 0 0)) 4 [])) (D.rows wb))) (Int.toNat (D.getInt l (Int.toNat j) 0)) 0 [D.int .i64 (D.getInt wb (Int.toNat (D.getInt l (Int.toNat j) 0)) 0), D.int .i64 clk, D.int .i64 (D.getInt wb (Int.toNat (D.getInt l (Int.toNat j) 0)) 2), D.int .i64 (IntKind.wrap .i64 (D.getInt wb (Int.toNat (D.getInt l (Int.toNat j) 0)) 3 + 1))]))]))))))))))
 exec Try.prog [] 400 (unroll (ackL10 cn cr cp cdl cps css cv p1 p2 p3 p4 pf p6 pw ph q1 q2 q3 q4 qf q6 qw qh r1 r2 r3 r4 rf r6 rw rh fl wa wb wc now clk rt st l j)) =
 Tree.br (decide (j < (↑(D.len l) : Int))) (.all fun hs => .br (decide (D.getInt l (Int.toNat j) 0 < 0)) (.need (0 ≤ j ∧ j < (↑(D.len l) : Int) ∧ D.sz l = 1) (.need (D.HasCell l (Int.toNat j) 0 (FT.int .i64))
 (.need (decide (D.getInt l (Int.toNat j) 0 < 0) = true) (.need (decide (D.getInt l (Int.toNat j) 0 < 0) = true) (.need (decide (D.getInt l (Int.toNat j) 0 < 0) = true) (.need (decide (D.getInt l (Int.toNat j) 0 < 0) = true)
 (.need (decide (D.getInt l (Int.toNat j) 0 < 0) = true) (.need (decide (D.getInt l (Int.toNat j) 0 < 0) = true) (.need (decide (D.getInt l (Int.toNat j) 0 < 0) = true) (.need (decide (D.getInt l (Int.toNat j) 0 < 0) = true)
 (.need (decide (D.getInt l (Int.toNat j) 0 < 0) = true) (.need (decide (D.getInt l (Int.toNat j) 0 < 0) = true) (.need (decide (D.getInt l (Int.toNat j) 0 < 0) = true) z2))))))))))))) (.need (0 ≤ j ∧ j <
 (↑(D.len l) : Int) ∧ D.sz l = 1) (.need (D.HasCell l (Int.toNat j) 0 (FT.int .i64)) (.need (decide (D.getInt l (Int.toNat j) 0 < 0) = false) (.need (decide (D.getInt l (Int.toNat j) 0 < 0) = false) (.need
 (decide (D.getInt l (Int.toNat j) 0 < 0) = false) (.need (0 ≤ j ∧ j < (↑(D.len l) : Int) ∧ D.sz l = 1) (.need (decide (D.getInt l (Int.toNat j) 0 < 0) = false) (.need (D.HasCell l (Int.toNat j) 0 (FT.int .i64))
 (.need (decide (D.getInt l (Int.toNat j) 0 < 0) = false) (.need (decide (D.getInt l (Int.toNat j) 0 < 0) = false) (.need (decide (D.getInt l (Int.toNat j) 0 < 0) = false) (.need ((0 : Int) ≤ 1 ∧ 1 < (↑3 : Int))
 (.need (decide (D.getInt l (Int.toNat j) 0 < 0) = false) (.need (decide (D.getInt l (Int.toNat j) 0 < 0) = false) (.need (decide (D.getInt l (Int.toNat j) 0 < 0) = false) (.need (decide (D.getInt l (Int.toNat j) 0 < 0) = false)
 (.br (decide (D.getInt l (Int.toNat j) 0 ≥ (↑(D.len wb) : Int))) z2 (.all fun hs => .need ((0 : Int) ≤ 1 ∧ 1 < (↑3 : Int)) (.need (0 ≤ j ∧ j < (↑(D.len l) : Int) ∧ D.sz l = 1) (.need (D.HasCell l (Int.toNat j) 0
 (FT.int .i64)) (.need (0 ≤ D.getInt l (Int.toNat j) 0 ∧ D.getInt l (Int.toNat j) 0 < (↑(D.len wb) : Int) ∧ D.sz wb = 4) (.need (D.HasCells wb (Int.toNat (D.getInt l (Int.toNat j) 0)) 0 [FT.int .i64, FT.int .i64, FT.int .i64, FT.int .i64])
 (.br (decide (D.getInt wb (Int.toNat (D.getInt l (Int.toNat j) 0)) 2 = 0)) z1 (.br (decide (IntKind.wrap .i64 (D.getInt wb (Int.toNat (D.getInt l (Int.toNat j) 0)) 3 + 1) > 1)) z1 (.need ((0 : Int) ≤ 1 ∧ 1 <
 (↑3 : Int)) (.br qf z1 (.all fun hs => .need ((0 : Int) ≤ 1 ∧ 1 < (↑3 : Int)) (.need (D.sz (D.slc (D.hd (hs 0 0)) 4 []) = 4 ∧ D.Fits wb 4 ∧ (D.len (D.slc (D.hd (hs 0 0)) 4 []) + D.len wb) * 32 ≤ 140737488355328 ∧ D.len
 (D.slc (D.hd (hs 0 0)) 4 []) + D.len wb ≤ 9223372036854775807) (.all fun hs_1 => .need ((0 : Int) ≤ 1 ∧ 1 < (↑3 : Int)) (.all fun hs_2 => .need ((0 : Int) ≤ 1 ∧ 1 < (↑3 : Int)) (.need (0 ≤ j ∧ j < (↑(D.len l) : Int) ∧ D.sz l = 1)
 (.need (D.HasCell l (Int.toNat j) 0 (FT.int .i64)) (.need (0 ≤ D.getInt l (Int.toNat j) 0 ∧ D.getInt l (Int.toNat j) 0 < (↑(D.len (D.slc (D.hd (hs_1 0 0)) 4 (List.append (D.rows (D.slc (D.hd (hs 0 0)) 4 []))
 (D.rows wb)))) : Int) ∧ D.sz (D.slc (D.hd (hs_1 0 0)) 4 (List.append (D.rows (D.slc (D.hd (hs 0 0)) 4 [])) (D.rows wb))) = 4) (.need (Int.toNat (D.getInt l (Int.toNat j) 0) < D.len (D.slc (D.hd (hs_1 0 0)) 4
 (List.append (D.rows (D.slc (D.hd (hs 0 0)) 4 [])) (D.rows wb))) ∧ 4 ≤ D.sz (D.slc (D.hd (hs_1 0 0)) 4 (List.append (D.rows (D.slc (D.hd (hs 0 0)) 4 [])) (D.rows wb))) ∧ D.sz (D.slc (D.hd (hs_1 0 0)) 4
 (List.append (D.rows (D.slc (D.hd (hs 0 0)) 4 [])) (D.rows wb))) = 4) (.leaf (Conf.mk z4 [] [(0, OBlk.cells 97 [.int .i64 cn, .int .i64 cr, .int .i64 cp, .int .i64 cdl, .dat cps, .dat css, .bool cv, .int .i64 p1, .int .i64 p2, .int .i64 p3, .int .i64 p4, .bool pf, .int .i64 p6, .dat pw, .dat ph, .int .i64 q1, .int .i64 q2, .int .i64 q3, .int .i64 q4, .bool qf, .int .i64 q6, .dat qw, .dat qh, .int .i64 r1, .int .i64 r2, .int .i64 r3, .int .i64 r4, .bool rf, .int .i64 r6, .dat rw, .dat rh, .dat fl, .dat wa, .vec 2, .dat wc, .int .i64 now, .int .i64 clk, .bool rt, .int .i64 st]),
 (1, OBlk.cells 97 z3), (2, OBlk.arr 105 (D.setCells (D.slc (D.hd (hs_1 0 0)) 4 (List.append (D.rows (D.slc (D.hd (hs 0 0)) 4 [])) (D.rows wb))) (Int.toNat (D.getInt l (Int.toNat j) 0)) 0 [D.int .i64 (D.getInt wb
 (Int.toNat (D.getInt l (Int.toNat j) 0)) 0), D.int .i64 clk, D.int .i64 (D.getInt wb (Int.toNat (D.getInt l (Int.toNat j) 0)) 2), D.int .i64 (IntKind.wrap .i64 (D.getInt wb (Int.toNat (D.getInt l (Int.toNat j) 0)) 3 + 1))]))])))))))))))))))))))))))))))))))))))))
 (.ret (.agg [.int .i64 cn, .int .i64 cr, .int .i64 cp, .int .i64 cdl, .dat cps, .dat css, .bool cv, .int .i64 p1, .int .i64 p2, .int .i64 p3, .int .i64 p4, .bool pf, .int .i64 p6, .dat pw, .dat ph, .int .i64 q1, .int .i64 q2, .int .i64 q3, .int .i64 q4, .bool qf, .int .i64 q6, .dat qw, .dat qh, .int .i64 r1, .int .i64 r2, .int .i64 r3, .int .i64 r4, .bool rf, .int .i64 r6, .dat rw, .dat rh, .dat fl, .dat wa, .dat wb, .dat wc, .int .i64 now, .int .i64 clk, .bool rt, .int .i64 st])) := by
 intros; kernel_rfl

theorem ackgo11 : 
 let z2 : Tree := (.ret (.agg [.int .i64 cn, .int .i64 cr, .int .i64 cp, .int .i64 cdl, .dat cps, .dat css, .bool cv, .int .i64 p1, .int .i64 p2, .int .i64 p3, .int .i64 p4, .bool pf, .int .i64 p6, .dat pw, .dat ph, .int .i64 q1, .int .i64 q2, .int .i64 q3, .int .i64 q4, .bool qf, .int .i64 q6, .dat qw, .dat qh, .int .i64 r1, .int .i64 r2, .int .i64 r3, .int .i64 r4, .bool rf, .int .i64 r6, .dat rw, .dat rh, .dat fl, .dat wa, .dat wb, .dat wc, .int .i64 now, .int .i64 clk, .lb false, .int .i64 st]))
 let z3 : List SV := [.int .i64 0, .int .i64 0, .int .i64 0, .int .i64 0, .nils, .nils, .lb false, .int .i64 0, .int .i64 0, .int .i64 0, .int .i64 0, .lb false, .int .i64 0, .nils, .nils, .int .i64 0, .int .i64 0, .int .i64 0, .int .i64 0, .lb false, .int .i64 0, .nils, .nils, .int .i64 0, .int .i64 0, .int .i64 0, .int .i64 0, .lb false, .int .i64 0, .nils, .nils, .nils, .nils, .nils, .nils, .int .i64 0, .int .i64 0, .lb false, .int .i64 0]
 let z4 := (SFrm.mk 78 none none [Item.inLoop (cAt Try.prog 78 [1, 0, 1, 0, 0]), Item.inBlock 0, Item.code (cAt Try.prog 78 [1, 1])] (mkJ 0 [(1, .int .i64 1), (2, .dat l), (3, .ptr 0 0), (6, .ptr 1 0), (7, .int .i64 (IntKind.wrap .i64 (j + 1)))] 0 87))
 let z1 : Tree := (.all fun hs => .need ((0 : Int) ≤ 1 ∧ 1 < (↑3 : Int)) (.need (D.sz (D.slc (D.hd (hs 0 0)) 4 []) = 4 ∧ D.Fits wb 4 ∧ (D.len (D.slc (D.hd (hs 0 0)) 4 []) + D.len wb) * 32 ≤ 140737488355328 ∧ D.len (D.slc (D.hd (hs 0 0)) 4 []) + D.len wb ≤ 9223372036854775807) (.all fun hs_1 => .need ((0 : Int) ≤ 1 ∧ 1 < (↑3 : Int)) (.all fun hs_2 => .need ((0 : Int) ≤ 1 ∧ 1 < (↑3 : Int)) (.need (0 ≤ j ∧ j < (↑(D.len l) : Int) ∧ D.sz l = 1) (.need (D.HasCell l (Int.toNat j) 0 (FT.int .i64)) (.need (0 ≤ D.getInt l (Int.toNat j) 0 ∧ D.getInt l (Int.toNat j) 0 < (↑(D.len (D.slc (D.hd (hs_1 0 0)) 4 (List.append (D.rows (D.slc (D.hd (hs 0 0)) 4 [])) (D.rows wb)))) : Int) ∧ D.sz (D.slc (D.hd (hs_1 0 0)) 4 (List.append (D.rows (D.slc (D.hd (hs 0 0)) 4 [])) (D.rows wb))) = 4) (.need (Int.toNat (D.getInt l (Int.toNat j) 0) < D.len (D.slc (D.hd (hs_1 0 0)) 4 (List.append (D.rows (D.slc (D.hd (hs 0 0)) 4 [])) (D.rows wb))) ∧ 4 ≤ D.sz (D.slc (D.hd (hs_1 0 0)) 4 (List.append (D.rows (D.slc (D.hd (hs 0 0)) 4 [])) (D.rows wb))) ∧ D.sz (D.slc (D.hd (hs_1 0 0)) 4 (List.append (D.rows (D.slc (D.hd (hs 0 0)) 4 [])) (D.rows wb))) = 4) (.leaf (Conf.mk z4 [] [(0, OBlk.cells 97 [.int .i64 cn, .int .i64 cr, .int .i64 cp, .int .i64 cdl, .dat cps, .dat css, .bool cv, .int .i64 p1, .int .i64 p2, .int .i64 p3, .int .i64 p4, .bool pf, .int .i64 p6, .dat pw, .dat ph, .int .i64 q1, .int .i64 q2, .int .i64 q3, .int .i64 q4, .bool qf, .int .i64 q6, .dat qw, .dat qh, .int .i64 r1, .int .i64 r2, .int .i64 r3, .int .i64 r4, .bool rf, .int .i64 r6, .dat rw, .dat rh, .dat fl, .dat wa, .vec 2, .dat wc, .int .i64 now, .int .i64 clk, .lb false, .int .i64 st]), (1, OBlk.cells 97 z3), (2, OBlk.arr 105 (D.setCells (D.slc (D.hd (hs_1 0 0)) 4 (List.append (D.rows (D.slc (D.hd (hs 0 0)) 4 [])) (D.rows wb))) (Int.toNat (D.getInt l (Int.toNat j) 0)) 0 [D.int .i64 (D.getInt wb (Int.toNat (D.getInt l (Int.toNat j) 0)) 0), D.int .i64 clk, D.int .i64 (D.getInt wb (Int.toNat (D.getInt l (Int.toNat j) 0)) 2), D.int .i64 (IntKind.wrap .i64 (D.getInt wb (Int.toNat (D.getInt l (Int.toNat j) 0)) 3 + 1))]))]))))))))))
 exec Try.prog [] 400 (unroll (ackL11 cn cr cp cdl cps css cv p1 p2 p3 p4 pf p6 pw ph q1 q2 q3 q4 qf q6 qw qh r1 r2 r3 r4 rf r6 rw rh fl wa wb wc now clk rt st l j)) =
 Tree.br (decide (j < (↑(D.len l) : Int))) (.all fun hs => .br (decide (D.getInt l (Int.toNat j) 0 < 0)) (.need (0 ≤ j ∧ j < (↑(D.len l) : Int) ∧ D.sz l = 1) (.need (D.HasCell l (Int.toNat j) 0 (FT.int .i64))
 (.need (decide (D.getInt l (Int.toNat j) 0 < 0) = true) (.need (decide (D.getInt l (Int.toNat j) 0 < 0) = true) (.need (decide (D.getInt l (Int.toNat j) 0 < 0) = true) (.need (decide (D.getInt l (Int.toNat j) 0 < 0) = true)
 (.need (decide (D.getInt l (Int.toNat j) 0 < 0) = true) (.need (decide (D.getInt l (Int.toNat j) 0 < 0) = true) (.need (decide (D.getInt l (Int.toNat j) 0 < 0) = true) (.need (decide (D.getInt l (Int.toNat j) 0 < 0) = true)
 (.need (decide (D.getInt l (Int.toNat j) 0 < 0) = true) (.need (decide (D.getInt l (Int.toNat j) 0 < 0) = true) (.need (decide (D.getInt l (Int.toNat j) 0 < 0) = true) z2))))))))))))) (.need (0 ≤ j ∧ j <
 (↑(D.len l) : Int) ∧ D.sz l = 1) (.need (D.HasCell l (Int.toNat j) 0 (FT.int .i64)) (.need (decide (D.getInt l (Int.toNat j) 0 < 0) = false) (.need (decide (D.getInt l (Int.toNat j) 0 < 0) = false) (.need
 (decide (D.getInt l (Int.toNat j) 0 < 0) = false) (.need (0 ≤ j ∧ j < (↑(D.len l) : Int) ∧ D.sz l = 1) (.need (decide (D.getInt l (Int.toNat j) 0 < 0) = false) (.need (D.HasCell l (Int.toNat j) 0 (FT.int .i64))
 (.need (decide (D.getInt l (Int.toNat j) 0 < 0) = false) (.need (decide (D.getInt l (Int.toNat j) 0 < 0) = false) (.need (decide (D.getInt l (Int.toNat j) 0 < 0) = false) (.need ((0 : Int) ≤ 1 ∧ 1 < (↑3 : Int))
 (.need (decide (D.getInt l (Int.toNat j) 0 < 0) = false) (.need (decide (D.getInt l (Int.toNat j) 0 < 0) = false) (.need (decide (D.getInt l (Int.toNat j) 0 < 0) = false) (.need (decide (D.getInt l (Int.toNat j) 0 < 0) = false)
 (.br (decide (D.getInt l (Int.toNat j) 0 ≥ (↑(D.len wb) : Int))) z2 (.all fun hs => .need ((0 : Int) ≤ 1 ∧ 1 < (↑3 : Int)) (.need (0 ≤ j ∧ j < (↑(D.len l) : Int) ∧ D.sz l = 1) (.need (D.HasCell l (Int.toNat j) 0
 (FT.int .i64)) (.need (0 ≤ D.getInt l (Int.toNat j) 0 ∧ D.getInt l (Int.toNat j) 0 < (↑(D.len wb) : Int) ∧ D.sz wb = 4) (.need (D.HasCells wb (Int.toNat (D.getInt l (Int.toNat j) 0)) 0 [FT.int .i64, FT.int .i64, FT.int .i64, FT.int .i64] ∧ D.sz wb = 4)
 (.br (decide (D.getInt wb (Int.toNat (D.getInt l (Int.toNat j) 0)) 2 = 0)) z1 (.br (decide (IntKind.wrap .i64 (D.getInt wb (Int.toNat (D.getInt l (Int.toNat j) 0)) 3 + 1) > 1)) z1 (.need ((0 : Int) ≤ 1 ∧ 1 <
 (↑3 : Int)) (.br qf z1 (.all fun hs => .need ((0 : Int) ≤ 1 ∧ 1 < (↑3 : Int)) (.need (D.sz (D.slc (D.hd (hs 0 0)) 4 []) = 4 ∧ D.Fits wb 4 ∧ (D.len (D.slc (D.hd (hs 0 0)) 4 []) + D.len wb) * 32 ≤ 140737488355328 ∧ D.len
 (D.slc (D.hd (hs 0 0)) 4 []) + D.len wb ≤ 9223372036854775807) (.all fun hs_1 => .need ((0 : Int) ≤ 1 ∧ 1 < (↑3 : Int)) (.all fun hs_2 => .need ((0 : Int) ≤ 1 ∧ 1 < (↑3 : Int)) (.need (0 ≤ j ∧ j < (↑(D.len l) : Int) ∧ D.sz l = 1)
 (.need (D.HasCell l (Int.toNat j) 0 (FT.int .i64)) (.need (0 ≤ D.getInt l (Int.toNat j) 0 ∧ D.getInt l (Int.toNat j) 0 < (↑(D.len (D.slc (D.hd (hs_1 0 0)) 4 (List.append (D.rows (D.slc (D.hd (hs 0 0)) 4 []))
 (D.rows wb)))) : Int) ∧ D.sz (D.slc (D.hd (hs_1 0 0)) 4 (List.append (D.rows (D.slc (D.hd (hs 0 0)) 4 [])) (D.rows wb))) = 4) (.need (Int.toNat (D.getInt l (Int.toNat j) 0) < D.len (D.slc (D.hd (hs_1 0 0)) 4
 (List.append (D.rows (D.slc (D.hd (hs 0 0)) 4 [])) (D.rows wb))) ∧ 4 ≤ D.sz (D.slc (D.hd (hs_1 0 0)) 4 (List.append (D.rows (D.slc (D.hd (hs 0 0)) 4 [])) (D.rows wb))) ∧ D.sz (D.slc (D.hd (hs_1 0 0)) 4
 (List.append (D.rows (D.slc (D.hd (hs 0 0)) 4 [])) (D.rows wb))) = 4) (.leaf (Conf.mk z4 [] [(0, OBlk.cells 97 [.int .i64 cn, .int .i64 cr, .int .i64 cp, .int .i64 cdl, .dat cps, .dat css, .bool cv, .int .i64 p1, .int .i64 p2, .int .i64 p3, .int .i64 p4, .bool pf, .int .i64 p6, .dat pw, .dat ph, .int .i64 q1, .int .i64 q2, .int .i64 q3, .int .i64 q4, .bool qf, .int .i64 q6, .dat qw, .dat qh, .int .i64 r1, .int .i64 r2, .int .i64 r3, .int .i64 r4, .bool rf, .int .i64 r6, .dat rw, .dat rh, .dat fl, .dat wa, .vec 2, .dat wc, .int .i64 now, .int .i64 clk, .bool rt, .int .i64 st]),
 (1, OBlk.cells 97 z3), (2, OBlk.arr 105 (D.setCells (D.slc (D.hd (hs_1 0 0)) 4 (List.append (D.rows (D.slc (D.hd (hs 0 0)) 4 [])) (D.rows wb))) (Int.toNat (D.getInt l (Int.toNat j) 0)) 0 [D.int .i64 (D.getInt wb
 (Int.toNat (D.getInt l (Int.toNat j) 0)) 0), D.int .i64 clk, D.int .i64 (D.getInt wb (Int.toNat (D.getInt l (Int.toNat j) 0)) 2), D.int .i64 (IntKind.wrap .i64 (D.getInt wb (Int.toNat (D.getInt l (Int.toNat j) 0)) 3 + 1))]))])))))))))))))))))))))))))))))))))))))
 (.ret (.agg [.int .i64 cn, .int .i64 cr, .int .i64 cp, .int .i64 cdl, .dat cps, .dat css, .bool cv, .int .i64 p1, .int .i64 p2, .int .i64 p3, .int .i64 p4, .bool pf, .int .i64 p6, .dat pw, .dat ph, .int .i64 q1, .int .i64 q2, .int .i64 q3, .int .i64 q4, .bool qf, .int .i64 q6, .dat qw, .dat qh, .int .i64 r1, .int .i64 r2, .int .i64 r3, .int .i64 r4, .bool rf, .int .i64 r6, .dat rw, .dat rh, .dat fl, .dat wa, .dat wb, .dat wc, .int .i64 now, .int .i64 clk, .bool rt, .int .i64 st])) := by
 intros; kernel_rfl

theorem ackin2 : exec Try.prog [] 300 (entry Try.prog 78 [.agg (cl9 cn cr cp cdl cps css cv p1 p2 p3 p4 pf p6 pw ph q1 q2 q3 q4 qf q6 qw qh r1 r2 r3 r4 rf r6 rw rh fl wa wb wc now clk rt st), .int .i64 2, .dat l]) =
 Tree.leaf
 (Conf.mk
 (SFrm.mk 78 none none
 [Item.inLoop (cAt Try.prog 78 [1, 0, 1, 0, 0]), Item.inBlock 0, Item.code (cAt Try.prog 78 [1, 1])]
 (mkJ 0 [(1, .int .i64 2), (2, .dat l), (3, .ptr 0 0), (6, .ptr 1 0), (7, .int .i64 0)] 0
 87))
 []
 [(0,
 OBlk.cells 97
 [.int .i64 cn, .int .i64 cr, .int .i64 cp, .int .i64 cdl, .dat cps,
 .dat css, .bool cv, .int .i64 p1, .int .i64 p2, .int .i64 p3,
 .int .i64 p4, .bool pf, .int .i64 p6, .dat pw, .dat ph, .int .i64 q1,
 .int .i64 q2, .int .i64 q3, .int .i64 q4, .bool qf, .int .i64 q6,
 .dat qw, .dat qh, .int .i64 r1, .int .i64 r2, .int .i64 r3,
 .int .i64 r4, .bool rf, .int .i64 r6, .dat rw, .dat rh, .dat fl, .dat wa,
 .dat wb, .dat wc, .int .i64 now, .int .i64 clk, .bool rt, .int .i64 st]),
 (1,
 OBlk.cells 97
 [.int .i64 0, .int .i64 0, .int .i64 0, .int .i64 0, .nils, .nils,
 .lb false, .int .i64 0, .int .i64 0, .int .i64 0, .int .i64 0,
 .lb false, .int .i64 0, .nils, .nils, .int .i64 0, .int .i64 0,
 .int .i64 0, .int .i64 0, .lb false, .int .i64 0, .nils, .nils,
 .int .i64 0, .int .i64 0, .int .i64 0, .int .i64 0, .lb false,
 .int .i64 0, .nils, .nils, .nils, .nils, .nils, .nils, .int .i64 0,
 .int .i64 0, .lb false, .int .i64 0])]) := by kernel_rfl

theorem ackgo20 : 
 let z2 : Tree := (.ret (.agg [.int .i64 cn, .int .i64 cr, .int .i64 cp, .int .i64 cdl, .dat cps, .dat css, .bool cv, .int .i64 p1, .int .i64 p2, .int .i64 p3, .int .i64 p4, .bool pf, .int .i64 p6, .dat pw, .dat ph, .int .i64 q1, .int .i64 q2, .int .i64 q3, .int .i64 q4, .bool qf, .int .i64 q6, .dat qw, .dat qh, .int .i64 r1, .int .i64 r2, .int .i64 r3, .int .i64 r4, .bool rf, .int .i64 r6, .dat rw, .dat rh, .dat fl, .dat wa, .dat wb, .dat wc, .int .i64 now, .int .i64 clk, .lb false, .int .i64 st]))
 let z3 : List SV := [.int .i64 0, .int .i64 0, .int .i64 0, .int .i64 0, .nils, .nils, .lb false, .int .i64 0, .int .i64 0, .int .i64 0, .int .i64 0, .lb false, .int .i64 0, .nils, .nils, .int .i64 0, .int .i64 0, .int .i64 0, .int .i64 0, .lb false, .int .i64 0, .nils, .nils, .int .i64 0, .int .i64 0, .int .i64 0, .int .i64 0, .lb false, .int .i64 0, .nils, .nils, .nils, .nils, .nils, .nils, .int .i64 0, .int .i64 0, .lb false, .int .i64 0]
 let z4 := (SFrm.mk 78 none none [Item.inLoop (cAt Try.prog 78 [1, 0, 1, 0, 0]), Item.inBlock 0, Item.code (cAt Try.prog 78 [1, 1])] (mkJ 0 [(1, .int .i64 2), (2, .dat l), (3, .ptr 0 0), (6, .ptr 1 0), (7, .int .i64 (IntKind.wrap .i64 (j + 1)))] 0 87))
 let z1 : Tree := (.all fun hs => .need ((0 : Int) ≤ 2 ∧ 2 < (↑3 : Int)) (.need (D.sz (D.slc (D.hd (hs 0 0)) 4 []) = 4 ∧ D.Fits wc 4 ∧ (D.len (D.slc (D.hd (hs 0 0)) 4 []) + D.len wc) * 32 ≤ 140737488355328 ∧ D.len (D.slc (D.hd (hs 0 0)) 4 []) + D.len wc ≤ 9223372036854775807) (.all fun hs_1 => .need ((0 : Int) ≤ 2 ∧ 2 < (↑3 : Int)) (.all fun hs_2 => .need ((0 : Int) ≤ 2 ∧ 2 < (↑3 : Int)) (.need (0 ≤ j ∧ j < (↑(D.len l) : Int) ∧ D.sz l = 1) (.need (D.HasCell l (Int.toNat j) 0 (FT.int .i64)) (.need (0 ≤ D.getInt l (Int.toNat j) 0 ∧ D.getInt l (Int.toNat j) 0 < (↑(D.len (D.slc (D.hd (hs_1 0 0)) 4 (List.append (D.rows (D.slc (D.hd (hs 0 0)) 4 [])) (D.rows wc)))) : Int) ∧ D.sz (D.slc (D.hd (hs_1 0 0)) 4 (List.append (D.rows (D.slc (D.hd (hs 0 0)) 4 [])) (D.rows wc))) = 4) (.need (Int.toNat (D.getInt l (Int.toNat j) 0) < D.len (D.slc (D.hd (hs_1 0 0)) 4 (List.append (D.rows (D.slc (D.hd (hs 0 0)) 4 [])) (D.rows wc))) ∧ 4 ≤ D.sz (D.slc (D.hd (hs_1 0 0)) 4 (List.append (D.rows (D.slc (D.hd (hs 0 0)) 4 [])) (D.rows wc))) ∧ D.sz (D.slc (D.hd (hs_1 0 0)) 4 (List.append (D.rows (D.slc (D.hd (hs 0 0)) 4 [])) (D.rows wc))) = 4) (.leaf (Conf.mk z4 [] [(0, OBlk.cells 97 [.int .i64 cn, .int .i64 cr, .int .i64 cp, .int .i64 cdl, .dat cps, .dat css, .bool cv, .int .i64 p1, .int .i64 p2, .int .i64 p3, .int .i64 p4, .bool pf, .int .i64 p6, .dat pw, .dat ph, .int .i64 q1, .int .i64 q2, .int .i64 q3, .int .i64 q4, .bool qf, .int .i64 q6, .dat qw, .dat qh, .int .i64 r1, .int .i64 r2, .int .i64 r3, .int .i64 r4, .bool rf, .int .i64 r6, .dat rw, .dat rh, .dat fl, .dat wa, .dat wb, .vec 2, .int .i64 now, .int .i64 clk, .lb false, .int .i64 st]), (1, OBlk.cells 97 z3), (2, OBlk.arr 105 (D.setCells (D.slc (D.hd (hs_1 0 0)) 4 (List.append (D.rows (D.slc (D.hd (hs 0 0)) 4 [])) (D.rows wc))) (Int.toNat (D.getInt l (Int.toNat j) 0)) 0 [D.int .i64 (D.getInt wc (Int.toNat (D.getInt l (Int.toNat j) 0)) 0), D.int .i64 clk, D.int .i64 (D.getInt wc (Int.toNat (D.getInt l (Int.toNat j) 0)) 2), D.int .i64 (IntKind.wrap .i64 (D.getInt wc (Int.toNat (D.getInt l (Int.toNat j) 0)) 3 + 1))]))]))))))))))
 exec Try.prog [] 400 (unroll (ackL20 cn cr cp cdl cps css cv p1 p2 p3 p4 pf p6 pw ph q1 q2 q3 q4 qf q6 qw qh r1 r2 r3 r4 rf r6 rw rh fl wa wb wc now clk rt st l j)) =
 Tree.br (decide (j < (↑(D.len l) : Int))) (.all fun hs => .br (decide (D.getInt l (Int.toNat j) 0 < 0)) (.need (0 ≤ j ∧ j < (↑(D.len l) : Int) ∧ D.sz l = 1) (.need (D.HasCell l (Int.toNat j) 0 (FT.int .i64))
 (.need (decide (D.getInt l (Int.toNat j) 0 < 0) = true) (.need (decide (D.getInt l (Int.toNat j) 0 < 0) = true) (.need (decide (D.getInt l (Int.toNat j) 0 < 0) = true) (.need (decide (D.getInt l (Int.toNat j) 0 < 0) = true)
 (.need (decide (D.getInt l (Int.toNat j) 0 < 0) = true) (.need (decide (D.getInt l (Int.toNat j) 0 < 0) = true) (.need (decide (D.getInt l (Int.toNat j) 0 < 0) = true) (.need (decide (D.getInt l (Int.toNat j) 0 < 0) = true)
 (.need (decide (D.getInt l (Int.toNat j) 0 < 0) = true) (.need (decide (D.getInt l (Int.toNat j) 0 < 0) = true) (.need (decide (D.getInt l (Int.toNat j) 0 < 0) = true) z2))))))))))))) (.need (0 ≤ j ∧ j <
 (↑(D.len l) : Int) ∧ D.sz l = 1) (.need (D.HasCell l (Int.toNat j) 0 (FT.int .i64)) (.need (decide (D.getInt l (Int.toNat j) 0 < 0) = false) (.need (decide (D.getInt l (Int.toNat j) 0 < 0) = false) (.need
 (decide (D.getInt l (Int.toNat j) 0 < 0) = false) (.need (0 ≤ j ∧ j < (↑(D.len l) : Int) ∧ D.sz l = 1) (.need (decide (D.getInt l (Int.toNat j) 0 < 0) = false) (.need (D.HasCell l (Int.toNat j) 0 (FT.int .i64))
 (.need (decide (D.getInt l (Int.toNat j) 0 < 0) = false) (.need (decide (D.getInt l (Int.toNat j) 0 < 0) = false) (.need (decide (D.getInt l (Int.toNat j) 0 < 0) = false) (.need ((0 : Int) ≤ 2 ∧ 2 < (↑3 : Int))
 (.need (decide (D.getInt l (Int.toNat j) 0 < 0) = false) (.need (decide (D.getInt l (Int.toNat j) 0 < 0) = false) (.need (decide (D.getInt l (Int.toNat j) 0 < 0) = false) (.need (decide (D.getInt l (Int.toNat j) 0 < 0) = false)
 (.br (decide (D.getInt l (Int.toNat j) 0 ≥ (↑(D.len wc) : Int))) z2 (.all fun hs => .need ((0 : Int) ≤ 2 ∧ 2 < (↑3 : Int)) (.need (0 ≤ j ∧ j < (↑(D.len l) : Int) ∧ D.sz l = 1) (.need (D.HasCell l (Int.toNat j) 0
 (FT.int .i64)) (.need (0 ≤ D.getInt l (Int.toNat j) 0 ∧ D.getInt l (Int.toNat j) 0 < (↑(D.len wc) : Int) ∧ D.sz wc = 4) (.need (D.HasCells wc (Int.toNat (D.getInt l (Int.toNat j) 0)) 0 [FT.int .i64, FT.int .i64, FT.int .i64, FT.int .i64])
 (.br (decide (D.getInt wc (Int.toNat (D.getInt l (Int.toNat j) 0)) 2 = 0)) z1 (.br (decide (IntKind.wrap .i64 (D.getInt wc (Int.toNat (D.getInt l (Int.toNat j) 0)) 3 + 1) > 1)) z1 (.need ((0 : Int) ≤ 2 ∧ 2 <
 (↑3 : Int)) (.br rf z1 (.all fun hs => .need ((0 : Int) ≤ 2 ∧ 2 < (↑3 : Int)) (.need (D.sz (D.slc (D.hd (hs 0 0)) 4 []) = 4 ∧ D.Fits wc 4 ∧ (D.len (D.slc (D.hd (hs 0 0)) 4 []) + D.len wc) * 32 ≤ 140737488355328 ∧ D.len
 (D.slc (D.hd (hs 0 0)) 4 []) + D.len wc ≤ 9223372036854775807) (.all fun hs_1 => .need ((0 : Int) ≤ 2 ∧ 2 < (↑3 : Int)) (.all fun hs_2 => .need ((0 : Int) ≤ 2 ∧ 2 < (↑3 : Int)) (.need (0 ≤ j ∧ j < (↑(D.len l) : Int) ∧ D.sz l = 1)
 (.need (D.HasCell l (Int.toNat j) 0 (FT.int .i64)) (.need (0 ≤ D.getInt l (Int.toNat j) 0 ∧ D.getInt l (Int.toNat j) 0 < (↑(D.len (D.slc (D.hd (hs_1 0 0)) 4 (List.append (D.rows (D.slc (D.hd (hs 0 0)) 4 []))
 (D.rows wc)))) : Int) ∧ D.sz (D.slc (D.hd (hs_1 0 0)) 4 (List.append (D.rows (D.slc (D.hd (hs 0 0)) 4 [])) (D.rows wc))) = 4) (.need (Int.toNat (D.getInt l (Int.toNat j) 0) < D.len (D.slc (D.hd (hs_1 0 0)) 4
 (List.append (D.rows (D.slc (D.hd (hs 0 0)) 4 [])) (D.rows wc))) ∧ 4 ≤ D.sz (D.slc (D.hd (hs_1 0 0)) 4 (List.append (D.rows (D.slc (D.hd (hs 0 0)) 4 [])) (D.rows wc))) ∧ D.sz (D.slc (D.hd (hs_1 0 0)) 4
 (List.append (D.rows (D.slc (D.hd (hs 0 0)) 4 [])) (D.rows wc))) = 4) (.leaf (Conf.mk z4 [] [(0, OBlk.cells 97 [.int .i64 cn, .int .i64 cr, .int .i64 cp, .int .i64 cdl, .dat cps, .dat css, .bool cv, .int .i64 p1, .int .i64 p2, .int .i64 p3, .int .i64 p4, .bool pf, .int .i64 p6, .dat pw, .dat ph, .int .i64 q1, .int .i64 q2, .int .i64 q3, .int .i64 q4, .bool qf, .int .i64 q6, .dat qw, .dat qh, .int .i64 r1, .int .i64 r2, .int .i64 r3, .int .i64 r4, .bool rf, .int .i64 r6, .dat rw, .dat rh, .dat fl, .dat wa, .dat wb, .vec 2, .int .i64 now, .int .i64 clk, .bool rt, .int .i64 st]),
 (1, OBlk.cells 97 z3), (2, OBlk.arr 105 (D.setCells (D.slc (D.hd (hs_1 0 0)) 4 (List.append (D.rows (D.slc (D.hd (hs 0 0)) 4 [])) (D.rows wc))) (Int.toNat (D.getInt l (Int.toNat j) 0)) 0 [D.int .i64 (D.getInt wc
 (Int.toNat (D.getInt l (Int.toNat j) 0)) 0), D.int .i64 clk, D.int .i64 (D.getInt wc (Int.toNat (D.getInt l (Int.toNat j) 0)) 2), D.int .i64 (IntKind.wrap .i64 (D.getInt wc (Int.toNat (D.getInt l (Int.toNat j) 0)) 3 + 1))]))])))))))))))))))))))))))))))))))))))))
 (.ret (.agg [.int .i64 cn, .int .i64 cr, .int .i64 cp, .int .i64 cdl, .dat cps, .dat css, .bool cv, .int .i64 p1, .int .i64 p2, .int .i64 p3, .int .i64 p4, .bool pf, .int .i64 p6, .dat pw, .dat ph, .int .i64 q1, .int .i64 q2, .int .i64 q3, .int .i64 q4, .bool qf, .int .i64 q6, .dat qw, .dat qh, .int .i64 r1, .int .i64 r2, .int .i64 r3, .int .i64 r4, .bool rf, .int .i64 r6, .dat rw, .dat rh, .dat fl, .dat wa, .dat wb, .dat wc, .int .i64 now, .int .i64 clk, .bool rt, .int .i64 st])) := by
 intros; kernel_rfl

theorem ackgo21 : 
 let z2 : Tree := (.ret (.agg [.int .i64 cn, .int .i64 cr, .int .i64 cp, .int .i64 cdl, .dat cps, .dat css, .bool cv, .int .i64 p1, .int .i64 p2, .int .i64 p3, .int .i64 p4, .bool pf, .int .i64 p6, .dat pw, .dat ph, .int .i64 q1, .int .i64 q2, .int .i64 q3, .int .i64 q4, .bool qf, .int .i64 q6, .dat qw, .dat qh, .int .i64 r1, .int .i64 r2, .int .i64 r3, .int .i64 r4, .bool rf, .int .i64 r6, .dat rw, .dat rh, .dat fl, .dat wa, .dat wb, .dat wc, .int .i64 now, .int .i64 clk, .lb false, .int .i64 st]))
 let z3 : List SV := [.int .i64 0, .int .i64 0, .int .i64 0, .int .i64 0, .nils, .nils, .lb false, .int .i64 0, .int .i64 0, .int .i64 0, .int .i64 0, .lb false, .int .i64 0, .nils, .nils, .int .i64 0, .int .i64 0, .int .i64 0, .int .i64 0, .lb false, .int .i64 0, .nils, .nils, .int .i64 0, .int .i64 0, .int .i64 0, .int .i64 0, .lb false, .int .i64 0, .nils, .nils, .nils, .nils, .nils, .nils, .int .i64 0, .int .i64 0, .lb false, .int .i64 0]
 let z4 := (SFrm.mk 78 none none [Item.inLoop (cAt Try.prog 78 [1, 0, 1, 0, 0]), Item.inBlock 0, Item.code (cAt Try.prog 78 [1, 1])] (mkJ 0 [(1, .int .i64 2), (2, .dat l), (3, .ptr 0 0), (6, .ptr 1 0), (7, .int .i64 (IntKind.wrap .i64 (j + 1)))] 0 87))
 let z1 : Tree := (.all fun hs => .need ((0 : Int) ≤ 2 ∧ 2 < (↑3 : Int)) (.need (D.sz (D.slc (D.hd (hs 0 0)) 4 []) = 4 ∧ D.Fits wc 4 ∧ (D.len (D.slc (D.hd (hs 0 0)) 4 []) + D.len wc) * 32 ≤ 140737488355328 ∧ D.len (D.slc (D.hd (hs 0 0)) 4 []) + D.len wc ≤ 9223372036854775807) (.all fun hs_1 => .need ((0 : Int) ≤ 2 ∧ 2 < (↑3 : Int)) (.all fun hs_2 => .need ((0 : Int) ≤ 2 ∧ 2 < (↑3 : Int)) (.need (0 ≤ j ∧ j < (↑(D.len l) : Int) ∧ D.sz l = 1) (.need (D.HasCell l (Int.toNat j) 0 (FT.int .i64)) (.need (0 ≤ D.getInt l (Int.toNat j) 0 ∧ D.getInt l (Int.toNat j) 0 < (↑(D.len (D.slc (D.hd (hs_1 0 0)) 4 (List.append (D.rows (D.slc (D.hd (hs 0 0)) 4 [])) (D.rows wc)))) : Int) ∧ D.sz (D.slc (D.hd (hs_1 0 0)) 4 (List.append (D.rows (D.slc (D.hd (hs 0 0)) 4 [])) (D.rows wc))) = 4) (.need (Int.toNat (D.getInt l (Int.toNat j) 0) < D.len (D.slc (D.hd (hs_1 0 0)) 4 (List.append (D.rows (D.slc (D.hd (hs 0 0)) 4 [])) (D.rows wc))) ∧ 4 ≤ D.sz (D.slc (D.hd (hs_1 0 0)) 4 (List.append (D.rows (D.slc (D.hd (hs 0 0)) 4 [])) (D.rows wc))) ∧ D.sz (D.slc (D.hd (hs_1 0 0)) 4 (List.append (D.rows (D.slc (D.hd (hs 0 0)) 4 [])) (D.rows wc))) = 4) (.leaf (Conf.mk z4 [] [(0, OBlk.cells 97 [.int .i64 cn, .int .i64 cr, .int .i64 cp, .int .i64 cdl, .dat cps, .dat css, .bool cv, .int .i64 p1, .int .i64 p2, .int .i64 p3, .int .i64 p4, .bool pf, .int .i64 p6, .dat pw, .dat ph, .int .i64 q1, .int .i64 q2, .int .i64 q3, .int .i64 q4, .bool qf, .int .i64 q6, .dat qw, .dat qh, .int .i64 r1, .int .i64 r2, .int .i64 r3, .int .i64 r4, .bool rf, .int .i64 r6, .dat rw, .dat rh, .dat fl, .dat wa, .dat wb, .vec 2, .int .i64 now, .int .i64 clk, .lb false, .int .i64 st]), (1, OBlk.cells 97 z3), (2, OBlk.arr 105 (D.setCells (D.slc (D.hd (hs_1 0 0)) 4 (List.append (D.rows (D.slc (D.hd (hs 0 0)) 4 [])) (D.rows wc))) (Int.toNat (D.getInt l (Int.toNat j) 0)) 0 [D.int .i64 (D.getInt wc (Int.toNat (D.getInt l (Int.toNat j) 0)) 0), D.int .i64 clk, D.int .i64 (D.getInt wc (Int.toNat (D.getInt l (Int.toNat j) 0)) 2), D.int .i64 (IntKind.wrap .i64 (D.getInt wc (Int.toNat (D.getInt l (Int.toNat j) 0)) 3 + 1))]))]))))))))))
 exec Try.prog [] 400 (unroll (ackL21 cn cr cp cdl cps css cv p1 p2 p3 p4 pf p6 pw ph q1 q2 q3 q4 qf q6 qw qh r1 r2 r3 r4 rf r6 rw rh fl wa wb wc now clk rt st l j)) =
 Tree.br (decide (j < (↑(D.len l) : Int))) (.all fun hs => .br (decide (D.getInt l (Int.toNat j) 0 < 0)) (.need (0 ≤ j ∧ j < (↑(D.len l) : Int) ∧ D.sz l = 1) (.need (D.HasCell l (Int.toNat j) 0 (FT.int .i64))
 (.need (decide (D.getInt l (Int.toNat j) 0 < 0) = true) (.need (decide (D.getInt l (Int.toNat j) 0 < 0) = true) (.need (decide (D.getInt l (Int.toNat j) 0 < 0) = true) (.need (decide (D.getInt l (Int.toNat j) 0 < 0) = true)
 (.need (decide (D.getInt l (Int.toNat j) 0 < 0) = true) (.need (decide (D.getInt l (Int.toNat j) 0 < 0) = true) (.need (decide (D.getInt l (Int.toNat j) 0 < 0) = true) (.need (decide (D.getInt l (Int.toNat j) 0 < 0) = true)
 (.need (decide (D.getInt l (Int.toNat j) 0 < 0) = true) (.need (decide (D.getInt l (Int.toNat j) 0 < 0) = true) (.need (decide (D.getInt l (Int.toNat j) 0 < 0) = true) z2))))))))))))) (.need (0 ≤ j ∧ j <
 (↑(D.len l) : Int) ∧ D.sz l = 1) (.need (D.HasCell l (Int.toNat j) 0 (FT.int .i64)) (.need (decide (D.getInt l (Int.toNat j) 0 < 0) = false) (.need (decide (D.getInt l (Int.toNat j) 0 < 0) = false) (.need
 (decide (D.getInt l (Int.toNat j) 0 < 0) = false) (.need (0 ≤ j ∧ j < (↑(D.len l) : Int) ∧ D.sz l = 1) (.need (decide (D.getInt l (Int.toNat j) 0 < 0) = false) (.need (D.HasCell l (Int.toNat j) 0 (FT.int .i64))
 (.need (decide (D.getInt l (Int.toNat j) 0 < 0) = false) (.need (decide (D.getInt l (Int.toNat j) 0 < 0) = false) (.need (decide (D.getInt l (Int.toNat j) 0 < 0) = false) (.need ((0 : Int) ≤ 2 ∧ 2 < (↑3 : Int))
 (.need (decide (D.getInt l (Int.toNat j) 0 < 0) = false) (.need (decide (D.getInt l (Int.toNat j) 0 < 0) = false) (.need (decide (D.getInt l (Int.toNat j) 0 < 0) = false) (.need (decide (D.getInt l (Int.toNat j) 0 < 0) = false)
 (.br (decide (D.getInt l (Int.toNat j) 0 ≥ (↑(D.len wc) : Int))) z2 (.all fun hs => .need ((0 : Int) ≤ 2 ∧ 2 < (↑3 : Int)) (.need (0 ≤ j ∧ j < (↑(D.len l) : Int) ∧ D.sz l = 1) (.need (D.HasCell l (Int.toNat j) 0
 (FT.int .i64)) (.need (0 ≤ D.getInt l (Int.toNat j) 0 ∧ D.getInt l (Int.toNat j) 0 < (↑(D.len wc) : Int) ∧ D.sz wc = 4) (.need (D.HasCells wc (Int.toNat (D.getInt l (Int.toNat j) 0)) 0 [FT.int .i64, FT.int .i64, FT.int .i64, FT.int .i64] ∧ D.sz wc = 4)
 (.br (decide (D.getInt wc (Int.toNat (D.getInt l (Int.toNat j) 0)) 2 = 0)) z1 (.br (decide (IntKind.wrap .i64 (D.getInt wc (Int.toNat (D.getInt l (Int.toNat j) 0)) 3 + 1) > 1)) z1 (.need ((0 : Int) ≤ 2 ∧ 2 <
 (↑3 : Int)) (.br rf z1 (.all fun hs => .need ((0 : Int) ≤ 2 ∧ 2 < (↑3 : Int)) (.need (D.sz (D.slc (D.hd (hs 0 0)) 4 []) = 4 ∧ D.Fits wc 4 ∧ (D.len (D.slc (D.hd (hs 0 0)) 4 []) + D.len wc) * 32 ≤ 140737488355328 ∧ D.len
 (D.slc (D.hd (hs 0 0)) 4 []) + D.len wc ≤ 9223372036854775807) (.all fun hs_1 => .need ((0 : Int) ≤ 2 ∧ 2 < (↑3 : Int)) (.all fun hs_2 => .need ((0 : Int) ≤ 2 ∧ 2 < (↑3 : Int)) (.need (0 ≤ j ∧ j < (↑(D.len l) : Int) ∧ D.sz l = 1)
 (.need (D.HasCell l (Int.toNat j) 0 (FT.int .i64)) (.need (0 ≤ D.getInt l (Int.toNat j) 0 ∧ D.getInt l (Int.toNat j) 0 < (↑(D.len (D.slc (D.hd (hs_1 0 0)) 4 (List.append (D.rows (D.slc (D.hd (hs 0 0)) 4 []))
 (D.rows wc)))) : Int) ∧ D.sz (D.slc (D.hd (hs_1 0 0)) 4 (List.append (D.rows (D.slc (D.hd (hs 0 0)) 4 [])) (D.rows wc))) = 4) (.need (Int.toNat (D.getInt l (Int.toNat j) 0) < D.len (D.slc (D.hd (hs_1 0 0)) 4
 (List.append (D.rows (D.slc (D.hd (hs 0 0)) 4 [])) (D.rows wc))) ∧ 4 ≤ D.sz (D.slc (D.hd (hs_1 0 0)) 4 (List.append (D.rows (D.slc (D.hd (hs 0 0)) 4 [])) (D.rows wc))) ∧ D.sz (D.slc (D.hd (hs_1 0 0)) 4
 (List.append (D.rows (D.slc (D.hd (hs 0 0)) 4 [])) (D.rows wc))) = 4) (.leaf (Conf.mk z4 [] [(0, OBlk.cells 97 [.int .i64 cn, .int .i64 cr, .int .i64 cp, .int .i64 cdl, .dat cps, .dat css, .bool cv, .int .i64 p1, .int .i64 p2, .int .i64 p3, .int .i64 p4, .bool pf, .int .i64 p6, .dat pw, .dat ph, .int .i64 q1, .int .i64 q2, .int .i64 q3, .int .i64 q4, .bool qf, .int .i64 q6, .dat qw, .dat qh, .int .i64 r1, .int .i64 r2, .int .i64 r3, .int .i64 r4, .bool rf, .int .i64 r6, .dat rw, .dat rh, .dat fl, .dat wa, .dat wb, .vec 2, .int .i64 now, .int .i64 clk, .bool rt, .int .i64 st]),
 (1, OBlk.cells 97 z3), (2, OBlk.arr 105 (D.setCells (D.slc (D.hd (hs_1 0 0)) 4 (List.append (D.rows (D.slc (D.hd (hs 0 0)) 4 [])) (D.rows wc))) (Int.toNat (D.getInt l (Int.toNat j) 0)) 0 [D.int .i64 (D.getInt wc
 (Int.toNat (D.getInt l (Int.toNat j) 0)) 0), D.int .i64 clk, D.int .i64 (D.getInt wc (Int.toNat (D.getInt l (Int.toNat j) 0)) 2), D.int .i64 (IntKind.wrap .i64 (D.getInt wc (Int.toNat (D.getInt l (Int.toNat j) 0)) 3 + 1))]))])))))))))))))))))))))))))))))))))))))
 (.ret (.agg [.int .i64 cn, .int .i64 cr, .int .i64 cp, .int .i64 cdl, .dat cps, .dat css, .bool cv, .int .i64 p1, .int .i64 p2, .int .i64 p3, .int .i64 p4, .bool pf, .int .i64 p6, .dat pw, .dat ph, .int .i64 q1, .int .i64 q2, .int .i64 q3, .int .i64 q4, .bool qf, .int .i64 q6, .dat qw, .dat qh, .int .i64 r1, .int .i64 r2, .int .i64 r3, .int .i64 r4, .bool rf, .int .i64 r6, .dat rw, .dat rh, .dat fl, .dat wa, .dat wb, .dat wc, .int .i64 now, .int .i64 clk, .bool rt, .int .i64 st])) := by
 intros; kernel_rfl

theorem send_in : exec Try.prog [] 300 (entry Try.prog 77 [.agg (cl9 cn cr cp cdl cps css cv p1 p2 p3 p4 pf p6 pw ph q1 q2 q3 q4 qf q6 qw qh r1 r2 r3 r4 rf r6 rw rh fl wa wb wc now clk rt st), .dat l]) =
 Tree.all fun hs =>
 .need
 (D.sz (D.slc (D.hd (hs 0 0)) 8 []) = 8 ∧
 D.Fits fl 8 ∧
 (D.len (D.slc (D.hd (hs 0 0)) 8 []) + D.len fl) * 96 ≤ 140737488355328 ∧
 D.len (D.slc (D.hd (hs 0 0)) 8 []) + D.len fl ≤ 9223372036854775807)
 (.all fun hs_1 =>
 .need
 (D.sz (D.slc (D.hd (hs_1 0 0)) 8 (List.append (D.rows (D.slc (D.hd (hs 0 0)) 8 [])) (D.rows fl))) = 8 ∧
 D.Fits l 8 ∧
 (D.len (D.slc (D.hd (hs_1 0 0)) 8 (List.append (D.rows (D.slc (D.hd (hs 0 0)) 8 [])) (D.rows fl))) +
 D.len l) *
 96 ≤
 140737488355328 ∧
 D.len (D.slc (D.hd (hs_1 0 0)) 8 (List.append (D.rows (D.slc (D.hd (hs 0 0)) 8 [])) (D.rows fl))) +
 D.len l ≤
 9223372036854775807)
 (.all fun hs_2 =>
 .ret
 (.agg
 [.int .i64 cn, .int .i64 cr, .int .i64 cp, .int .i64 cdl, .dat cps,
 .dat css, .bool cv, .int .i64 p1, .int .i64 p2, .int .i64 p3,
 .int .i64 p4, .bool pf, .int .i64 p6, .dat pw, .dat ph, .int .i64 q1,
 .int .i64 q2, .int .i64 q3, .int .i64 q4, .bool qf, .int .i64 q6,
 .dat qw, .dat qh, .int .i64 r1, .int .i64 r2, .int .i64 r3,
 .int .i64 r4, .bool rf, .int .i64 r6, .dat rw, .dat rh,
 .dat
 (D.slc (D.hd (hs_2 0 0)) 8
 (List.append
 (D.rows
 (D.slc (D.hd (hs_1 0 0)) 8 (List.append (D.rows (D.slc (D.hd (hs 0 0)) 8 [])) (D.rows fl))))
 (D.rows l))),
 .dat wa, .dat wb, .dat wc, .int .i64 now, .int .i64 clk, .bool rt,
 .int .i64 st]))) := by kernel_rfl

end
end Go.Proofs.Ytoechplbhbalaaa
end
section
open Go Go.Proofs Sx
namespace Sx
theorem set_full {α : Type} [Codec α] {d : D} (hd : d.Is α) {i : Nat} (hi : i < (d.to α).length) {xs : List D} {x : α} (hl : xs.length = Codec.sz α) (hc : Codec.ok α xs) (hx : Codec.dec xs = x) :
  (d.setCells i 0 xs).Is α ∧ (d.setCells i 0 xs).to α = (d.to α).set i x := by
 have hz := hd.size hi
 have hr := rows_of hd
 have hl' := rows_len hr
 have e : cutIn (d.rows.getD i []) 0 xs = xs := by
  have h1 : d.rows.getD i [] = d.rows[i] := by simp [hl', hi]
  have h2 := Codec.len (α := α) d.rows[i] (hr.1 _ (List.getElem_mem _))
  rw [h1]
  simp only [cutIn, List.take_zero, List.nil_append, Nat.zero_add]
  rw [List.drop_eq_nil_of_le (by omega), List.append_nil]
 have := is_of (α := α) (h := d.hd) (s := d.sz) (rows := d.rows.set i xs) (xs := (d.to α).set i x) hz ⟨fun r hr' => by
  rcases List.mem_or_eq_of_mem_set hr' with h | h
  ·exact hr.1 r h
  ·rw [h]; exact hc, by rw [List.map_set, hr.2, hx]⟩
 unfold D.setCells
 rw [e]
 exact this
theorem copy_at {α : Type} [Codec α] {s : Nat} (h1 : Codec.sz α = s) {d : D} (hd : d.Is α) (a b : Hd) : (D.slc a s (List.append (D.rows (D.slc b s [])) (D.rows d))).Is α ∧ (D.slc a s (List.append (D.rows (D.slc b s [])) (D.rows d))).to α = d.to α :=
 is_of h1.symm (rows_of hd)

theorem ack_step {clk : Int} {fr : Bool} {L : List Int} {w Wf : List Wr} {j : Nat} (hj : j < L.length) (h : ackW clk fr (L.drop j) w = (Wf, true)) :
  0 ≤ L[j] ∧ ∃ hk : L[j].toNat < w.length, ¬w[L[j].toNat].durable = 0 ∧ ¬IntKind.i64.wrap (w[L[j].toNat].times + 1) > 1 ∧ fr = false ∧
   ackW clk fr (L.drop (j + 1)) (w.set L[j].toNat ⟨w[L[j].toNat].issued, clk, w[L[j].toNat].durable, IntKind.i64.wrap (w[L[j].toNat].times + 1)⟩) = (Wf, true) := by
 rw [List.drop_eq_getElem_cons hj] at h
 unfold ackW at h
 split at h
 ·cases h
 ·rename_i hc
  have hk : L[j].toNat < w.length := by omega
  have hg : w.getD L[j].toNat ⟨0, 0, 0, 0⟩ = w[L[j].toNat] := by simp [hk]
  simp only [hg, Prod.mk.injEq, Bool.and_eq_true, Bool.not_eq_true', Bool.or_eq_false_iff, decide_eq_false_iff_not] at h
  obtain ⟨h1, ⟨⟨h2, h3⟩, h4⟩, h5⟩ := h
  exact ⟨by omega, hk, h2, h3, h4, Prod.ext h1 h5⟩
end Sx
namespace Go.Proofs.Ytoechplbhbalaaa
set_option maxRecDepth 100000
set_option maxHeartbeats 0
theorem ack0_loop {w : World} {H : HV} {cn cr cp cdl : Int} {cps css : D} {cv : Bool} {p1 p2 p3 p4 : Int} {pf : Bool} {p6 : Int} {pw ph : D} {q1 q2 q3 q4 : Int} {qf : Bool} {q6 : Int} {qw qh : D} {r1 r2 r3 r4 : Int} {rf : Bool} {r6 : Int} {rw rh : D} {fl wb wc : D} {now clk : Int} {rt : Bool} {st : Int} {l : D} (hd : l.Is Int) (hlen : (l.to Int).length ≤ 1048575) {Wf : List Wr} : ∀ q : D × Nat, (q.2 ≤ (l.to Int).length ∧ q.1.Is Wr ∧ q.1.len ≤ 1048576 ∧ ackW clk pf ((l.to Int).drop q.2) (q.1.to Wr) = (Wf, true)) →
  Runs Try.prog ⟨w, H⟩ (ackL01 cn cr cp cdl cps css cv p1 p2 p3 p4 pf p6 pw ph q1 q2 q3 q4 qf q6 qw qh r1 r2 r3 r4 rf r6 rw rh fl q.1 wb wc now clk rt st l q.2) (RetD w H fun ds => .agg (List.map CV.sv (CV.int cn :: CV.int cr :: CV.int cp :: CV.int cdl :: CV.dat cps :: CV.dat css :: CV.bool cv :: CV.int p1 :: CV.int p2 :: CV.int p3 :: CV.int p4 :: CV.bool pf :: CV.int p6 :: CV.dat pw :: CV.dat ph :: CV.int q1 :: CV.int q2 :: CV.int q3 :: CV.int q4 :: CV.bool qf :: CV.int q6 :: CV.dat qw :: CV.dat qh :: CV.int r1 :: CV.int r2 :: CV.int r3 :: CV.int r4 :: CV.bool rf :: CV.int r6 :: CV.dat rw :: CV.dat rh :: CV.dat fl :: CV.dat ((ds 0).like Wf) :: CV.dat wb :: CV.dat wc :: CV.int now :: CV.int clk :: CV.bool rt :: CV.int st :: []))) := by
 refine runs_loop (fun q : D × Nat => ackL01 cn cr cp cdl cps css cv p1 p2 p3 p4 pf p6 pw ph q1 q2 q3 q4 qf q6 qw qh r1 r2 r3 r4 rf r6 rw rh fl q.1 wb wc now clk rt st l q.2) (fun q => q.2 ≤ (l.to Int).length ∧ q.1.Is Wr ∧ q.1.len ≤ 1048576 ∧ ackW clk pf ((l.to Int).drop q.2) (q.1.to Wr) = (Wf, true)) (fun q => (l.to Int).length - q.2) (fun _ => rfl) ?_
 intro ⟨w0, j⟩ ⟨hj, hw, hb, hinv⟩ ih
 simp only at hj hw hb hinv
 apply exec_sound (noCtr _) 400
 rw [ackgo01]
 have hl := D.Is.length (α := Int) l
 have hwl := D.Is.length (α := Wr) w0
 have hwr := rows_len (rows_of hw)
 refine ⟨fun hc => ?_, fun hc => ?_⟩
 ·simp [hl] at hc
  obtain ⟨c1, c2, c3⟩ := int_at hd hc
  obtain ⟨a0, hk, a1, a2, a3, a4⟩ := ack_step hc hinv
  obtain ⟨k1, k2, k3, k4, k5⟩ := wr_cell hw hk
  rw [c3, k2, k4, k5]
  generalize hx : (l.to Int)[j] = x at *
  have hsz := hw.size hk
  have f0 : (0 : Int) ≥ 0 ∧ (0 : Int) < ((3 : Nat) : Int) := by omega
  have f0' : (0 : Int) ≤ 0 ∧ (0 : Int) < ((3 : Nat) : Int) := by omega
  have f1 : 0 ≤ x ∧ x < (w0.len : Int) ∧ w0.sz = 4 := ⟨a0, by omega, hsz⟩
  have f2 : w0.HasCells x.toNat 0 [.int .i64, .int .i64, .int .i64, .int .i64] ∧ w0.sz = 4 := ⟨k1, hsz⟩
  have f3 : ∀ a, (D.slc a 4 []).sz = 4 ∧ w0.Fits 4 ∧ ((D.slc a 4 []).len + w0.len) * 32 ≤ 140737488355328 ∧ (D.slc a 4 []).len + w0.len ≤ 9223372036854775807 := fun a => ⟨rfl, hw.fits, by simp only [len_slc, List.length_nil]; omega, by simp only [len_slc, List.length_nil]; omega⟩
  have cpy := fun a b => copy_at (α := Wr) (s := 4) rfl hw a b
  have cl : ∀ a b, (D.slc a 4 (List.append (D.rows (D.slc b 4 [])) (D.rows w0))).len = w0.len := fun a b => by rw [D.Is.length (α := Wr), (cpy a b).2, hwl]
  have f4 : ∀ a b, 0 ≤ x ∧ x < ((D.slc a 4 (List.append (D.rows (D.slc b 4 [])) (D.rows w0))).len : Int) ∧ (D.slc a 4 (List.append (D.rows (D.slc b 4 [])) (D.rows w0))).sz = 4 := fun a b => ⟨a0, by rw [cl]; omega, rfl⟩
  have f5 : ∀ a b, x.toNat < (D.slc a 4 (List.append (D.rows (D.slc b 4 [])) (D.rows w0))).len ∧ 4 ≤ (D.slc a 4 (List.append (D.rows (D.slc b 4 [])) (D.rows w0))).sz ∧ (D.slc a 4 (List.append (D.rows (D.slc b 4 [])) (D.rows w0))).sz = 4 := fun a b => ⟨by rw [cl]; omega, Nat.le_refl 4, rfl⟩
  have b1 : decide (x < 0) = false := decide_eq_false (by omega)
  have b2 : decide (x ≥ (w0.len : Int)) = false := decide_eq_false (by omega)
  have b3 := decide_eq_false a1
  have b4 := decide_eq_false a2
  rw [b1, b2, b3, b4]
  repeat' first
   | with_reducible refine holds_all.2 fun _ => ?_
   | refine ⟨c1, ?_⟩
   | refine ⟨c2, ?_⟩
   | refine ⟨f0', ?_⟩
   | refine ⟨f1, ?_⟩
   | refine ⟨f2, ?_⟩
   | refine ⟨k1, ?_⟩
   | refine ⟨f3 _, ?_⟩
   | refine ⟨f4 _ _, ?_⟩
   | refine ⟨f5 _ _, ?_⟩
   | refine ⟨rfl, ?_⟩
   | refine ⟨fun hf => absurd hf (by decide), fun _ => ?_⟩
   | refine ⟨fun hf => absurd (a3.symm.trans hf) (by decide), fun _ => ?_⟩
   | fail
  rename_i h1 h2 _
  obtain ⟨s1, s2⟩ := set_full (α := Wr) (cpy (D.hd (h2 0 0)) (D.hd (h1 0 0))).1 (i := x.toNat) (by rw [(cpy _ _).2]; exact hk) (xs := [.int .i64 ((w0.to Wr)[x.toNat]).issued, .int .i64 clk, .int .i64 ((w0.to Wr)[x.toNat]).durable, .int .i64 (IntKind.i64.wrap (((w0.to Wr)[x.toNat]).times + 1))]) rfl ⟨_, _, _, _, rfl⟩ rfl
  rw [(cpy _ _).2] at s2
  have := ih (D.setCells (D.slc (D.hd (h2 0 0)) 4 (List.append (D.rows (D.slc (D.hd (h1 0 0)) 4 [])) (D.rows w0))) x.toNat 0 [.int .i64 ((w0.to Wr)[x.toNat]).issued, .int .i64 clk, .int .i64 ((w0.to Wr)[x.toNat]).durable, .int .i64 (IntKind.i64.wrap (((w0.to Wr)[x.toNat]).times + 1))], j + 1) ⟨hc, s1, by rw [D.Is.length (α := Wr), s2, List.length_set]; omega, by rw [s2]; exact a4⟩ (by simp only; omega)
  simp only at this
  rw [← wrap_succ hc (by omega)] at this
  exact this
 ·simp [hl] at hc
  have : j = (l.to Int).length := by omega
  subst this
  rw [List.drop_length] at hinv
  have hto : w0.to Wr = Wf := congrArg Prod.fst hinv
  refine ret_D (fun _ => w0) (fun E E' => ?_) (fun H' ho => ?_)
  ·rw [D.like_self hw hto]; rfl
  ·rw [D.like_self hw hto]; exact ho

theorem ack0_run {w : World} {H : HV} {cn cr cp cdl : Int} {cps css : D} {cv : Bool} {p1 p2 p3 p4 : Int} {pf : Bool} {p6 : Int} {pw ph : D} {q1 q2 q3 q4 : Int} {qf : Bool} {q6 : Int} {qw qh : D} {r1 r2 r3 r4 : Int} {rf : Bool} {r6 : Int} {rw rh : D} {fl wb wc : D} {now clk : Int} {rt : Bool} {st : Int} {l : D} (hd : l.Is Int) (hlen : (l.to Int).length ≤ 1048575) {Wf : List Wr} {w0 : D} (hw : w0.Is Wr) (hb : w0.len ≤ 1048576) (hinv : ackW clk pf (l.to Int) (w0.to Wr) = (Wf, true)) :
  Runs Try.prog ⟨w, H⟩ (ackL00 cn cr cp cdl cps css cv p1 p2 p3 p4 pf p6 pw ph q1 q2 q3 q4 qf q6 qw qh r1 r2 r3 r4 rf r6 rw rh fl w0 wb wc now clk rt st l 0) (RetD w H fun ds => .agg (List.map CV.sv (CV.int cn :: CV.int cr :: CV.int cp :: CV.int cdl :: CV.dat cps :: CV.dat css :: CV.bool cv :: CV.int p1 :: CV.int p2 :: CV.int p3 :: CV.int p4 :: CV.bool pf :: CV.int p6 :: CV.dat pw :: CV.dat ph :: CV.int q1 :: CV.int q2 :: CV.int q3 :: CV.int q4 :: CV.bool qf :: CV.int q6 :: CV.dat qw :: CV.dat qh :: CV.int r1 :: CV.int r2 :: CV.int r3 :: CV.int r4 :: CV.bool rf :: CV.int r6 :: CV.dat rw :: CV.dat rh :: CV.dat fl :: CV.dat ((ds 0).like Wf) :: CV.dat wb :: CV.dat wc :: CV.int now :: CV.int clk :: CV.bool rt :: CV.int st :: []))) := by
 refine unroll_sound rfl ?_
 obtain ⟨j, hj0, hj⟩ : ∃ j : Nat, j = 0 ∧ j ≤ (l.to Int).length := ⟨0, rfl, Nat.zero_le _⟩
 rw [show (0 : Int) = ((j : Nat) : Int) by rw [hj0]; rfl]
 replace hinv : ackW clk pf ((l.to Int).drop j) (w0.to Wr) = (Wf, true) := by rw [hj0]; exact hinv
 apply exec_sound (noCtr _) 400
 rw [ackgo00]
 have hl := D.Is.length (α := Int) l
 have hwl := D.Is.length (α := Wr) w0
 have hwr := rows_len (rows_of hw)
 refine ⟨fun hc => ?_, fun hc => ?_⟩
 ·simp [hl] at hc
  obtain ⟨c1, c2, c3⟩ := int_at hd hc
  obtain ⟨a0, hk, a1, a2, a3, a4⟩ := ack_step hc hinv
  obtain ⟨k1, k2, k3, k4, k5⟩ := wr_cell hw hk
  rw [c3, k2, k4, k5]
  generalize hx : (l.to Int)[j] = x at *
  have hsz := hw.size hk
  have f0 : (0 : Int) ≥ 0 ∧ (0 : Int) < ((3 : Nat) : Int) := by omega
  have f0' : (0 : Int) ≤ 0 ∧ (0 : Int) < ((3 : Nat) : Int) := by omega
  have f1 : 0 ≤ x ∧ x < (w0.len : Int) ∧ w0.sz = 4 := ⟨a0, by omega, hsz⟩
  have f2 : w0.HasCells x.toNat 0 [.int .i64, .int .i64, .int .i64, .int .i64] ∧ w0.sz = 4 := ⟨k1, hsz⟩
  have f3 : ∀ a, (D.slc a 4 []).sz = 4 ∧ w0.Fits 4 ∧ ((D.slc a 4 []).len + w0.len) * 32 ≤ 140737488355328 ∧ (D.slc a 4 []).len + w0.len ≤ 9223372036854775807 := fun a => ⟨rfl, hw.fits, by simp only [len_slc, List.length_nil]; omega, by simp only [len_slc, List.length_nil]; omega⟩
  have cpy := fun a b => copy_at (α := Wr) (s := 4) rfl hw a b
  have cl : ∀ a b, (D.slc a 4 (List.append (D.rows (D.slc b 4 [])) (D.rows w0))).len = w0.len := fun a b => by rw [D.Is.length (α := Wr), (cpy a b).2, hwl]
  have f4 : ∀ a b, 0 ≤ x ∧ x < ((D.slc a 4 (List.append (D.rows (D.slc b 4 [])) (D.rows w0))).len : Int) ∧ (D.slc a 4 (List.append (D.rows (D.slc b 4 [])) (D.rows w0))).sz = 4 := fun a b => ⟨a0, by rw [cl]; omega, rfl⟩
  have f5 : ∀ a b, x.toNat < (D.slc a 4 (List.append (D.rows (D.slc b 4 [])) (D.rows w0))).len ∧ 4 ≤ (D.slc a 4 (List.append (D.rows (D.slc b 4 [])) (D.rows w0))).sz ∧ (D.slc a 4 (List.append (D.rows (D.slc b 4 [])) (D.rows w0))).sz = 4 := fun a b => ⟨by rw [cl]; omega, Nat.le_refl 4, rfl⟩
  have b1 : decide (x < 0) = false := decide_eq_false (by omega)
  have b2 : decide (x ≥ (w0.len : Int)) = false := decide_eq_false (by omega)
  have b3 := decide_eq_false a1
  have b4 := decide_eq_false a2
  rw [b1, b2, b3, b4]
  repeat' first
   | with_reducible refine holds_all.2 fun _ => ?_
   | refine ⟨c1, ?_⟩
   | refine ⟨c2, ?_⟩
   | refine ⟨f0', ?_⟩
   | refine ⟨f1, ?_⟩
   | refine ⟨f2, ?_⟩
   | refine ⟨k1, ?_⟩
   | refine ⟨f3 _, ?_⟩
   | refine ⟨f4 _ _, ?_⟩
   | refine ⟨f5 _ _, ?_⟩
   | refine ⟨rfl, ?_⟩
   | refine ⟨fun hf => absurd hf (by decide), fun _ => ?_⟩
   | refine ⟨fun hf => absurd (a3.symm.trans hf) (by decide), fun _ => ?_⟩
   | fail
  rename_i h1 h2 _
  obtain ⟨s1, s2⟩ := set_full (α := Wr) (cpy (D.hd (h2 0 0)) (D.hd (h1 0 0))).1 (i := x.toNat) (by rw [(cpy _ _).2]; exact hk) (xs := [.int .i64 ((w0.to Wr)[x.toNat]).issued, .int .i64 clk, .int .i64 ((w0.to Wr)[x.toNat]).durable, .int .i64 (IntKind.i64.wrap (((w0.to Wr)[x.toNat]).times + 1))]) rfl ⟨_, _, _, _, rfl⟩ rfl
  rw [(cpy _ _).2] at s2
  have := ack0_loop (w := w) (H := H) (cn := cn) (cr := cr) (cp := cp) (cdl := cdl) (cps := cps) (css := css) (cv := cv) (p1 := p1) (p2 := p2) (p3 := p3) (p4 := p4) (pf := pf) (p6 := p6) (pw := pw) (ph := ph) (q1 := q1) (q2 := q2) (q3 := q3) (q4 := q4) (qf := qf) (q6 := q6) (qw := qw) (qh := qh) (r1 := r1) (r2 := r2) (r3 := r3) (r4 := r4) (rf := rf) (r6 := r6) (rw := rw) (rh := rh) (fl := fl) (wb := wb) (wc := wc) (now := now) (clk := clk) (rt := rt) (st := st) hd hlen (Wf := Wf) (D.setCells (D.slc (D.hd (h2 0 0)) 4 (List.append (D.rows (D.slc (D.hd (h1 0 0)) 4 [])) (D.rows w0))) x.toNat 0 [.int .i64 ((w0.to Wr)[x.toNat]).issued, .int .i64 clk, .int .i64 ((w0.to Wr)[x.toNat]).durable, .int .i64 (IntKind.i64.wrap (((w0.to Wr)[x.toNat]).times + 1))], j + 1) ⟨hc, s1, by rw [D.Is.length (α := Wr), s2, List.length_set]; omega, by rw [s2]; exact a4⟩
  simp only at this
  rw [← wrap_succ hc (by omega)] at this
  exact this
 ·simp [hl] at hc
  have : j = (l.to Int).length := by omega
  subst this
  rw [List.drop_length] at hinv
  have hto : w0.to Wr = Wf := congrArg Prod.fst hinv
  refine ret_D (fun _ => w0) (fun E E' => ?_) (fun H' ho => ?_)
  ·rw [D.like_self hw hto]; rfl
  ·rw [D.like_self hw hto]; exact ho

theorem ack1_loop {w : World} {H : HV} {cn cr cp cdl : Int} {cps css : D} {cv : Bool} {p1 p2 p3 p4 : Int} {pf : Bool} {p6 : Int} {pw ph : D} {q1 q2 q3 q4 : Int} {qf : Bool} {q6 : Int} {qw qh : D} {r1 r2 r3 r4 : Int} {rf : Bool} {r6 : Int} {rw rh : D} {fl wa wc : D} {now clk : Int} {rt : Bool} {st : Int} {l : D} (hd : l.Is Int) (hlen : (l.to Int).length ≤ 1048575) {Wf : List Wr} : ∀ q : D × Nat, (q.2 ≤ (l.to Int).length ∧ q.1.Is Wr ∧ q.1.len ≤ 1048576 ∧ ackW clk qf ((l.to Int).drop q.2) (q.1.to Wr) = (Wf, true)) →
  Runs Try.prog ⟨w, H⟩ (ackL11 cn cr cp cdl cps css cv p1 p2 p3 p4 pf p6 pw ph q1 q2 q3 q4 qf q6 qw qh r1 r2 r3 r4 rf r6 rw rh fl wa q.1 wc now clk rt st l q.2) (RetD w H fun ds => .agg (List.map CV.sv (CV.int cn :: CV.int cr :: CV.int cp :: CV.int cdl :: CV.dat cps :: CV.dat css :: CV.bool cv :: CV.int p1 :: CV.int p2 :: CV.int p3 :: CV.int p4 :: CV.bool pf :: CV.int p6 :: CV.dat pw :: CV.dat ph :: CV.int q1 :: CV.int q2 :: CV.int q3 :: CV.int q4 :: CV.bool qf :: CV.int q6 :: CV.dat qw :: CV.dat qh :: CV.int r1 :: CV.int r2 :: CV.int r3 :: CV.int r4 :: CV.bool rf :: CV.int r6 :: CV.dat rw :: CV.dat rh :: CV.dat fl :: CV.dat wa :: CV.dat ((ds 0).like Wf) :: CV.dat wc :: CV.int now :: CV.int clk :: CV.bool rt :: CV.int st :: []))) := by
 refine runs_loop (fun q : D × Nat => ackL11 cn cr cp cdl cps css cv p1 p2 p3 p4 pf p6 pw ph q1 q2 q3 q4 qf q6 qw qh r1 r2 r3 r4 rf r6 rw rh fl wa q.1 wc now clk rt st l q.2) (fun q => q.2 ≤ (l.to Int).length ∧ q.1.Is Wr ∧ q.1.len ≤ 1048576 ∧ ackW clk qf ((l.to Int).drop q.2) (q.1.to Wr) = (Wf, true)) (fun q => (l.to Int).length - q.2) (fun _ => rfl) ?_
 intro ⟨w0, j⟩ ⟨hj, hw, hb, hinv⟩ ih
 simp only at hj hw hb hinv
 apply exec_sound (noCtr _) 400
 rw [ackgo11]
 have hl := D.Is.length (α := Int) l
 have hwl := D.Is.length (α := Wr) w0
 have hwr := rows_len (rows_of hw)
 refine ⟨fun hc => ?_, fun hc => ?_⟩
 ·simp [hl] at hc
  obtain ⟨c1, c2, c3⟩ := int_at hd hc
  obtain ⟨a0, hk, a1, a2, a3, a4⟩ := ack_step hc hinv
  obtain ⟨k1, k2, k3, k4, k5⟩ := wr_cell hw hk
  rw [c3, k2, k4, k5]
  generalize hx : (l.to Int)[j] = x at *
  have hsz := hw.size hk
  have f0 : (1 : Int) ≥ 0 ∧ (1 : Int) < ((3 : Nat) : Int) := by omega
  have f0' : (0 : Int) ≤ 1 ∧ (1 : Int) < ((3 : Nat) : Int) := by omega
  have f1 : 0 ≤ x ∧ x < (w0.len : Int) ∧ w0.sz = 4 := ⟨a0, by omega, hsz⟩
  have f2 : w0.HasCells x.toNat 0 [.int .i64, .int .i64, .int .i64, .int .i64] ∧ w0.sz = 4 := ⟨k1, hsz⟩
  have f3 : ∀ a, (D.slc a 4 []).sz = 4 ∧ w0.Fits 4 ∧ ((D.slc a 4 []).len + w0.len) * 32 ≤ 140737488355328 ∧ (D.slc a 4 []).len + w0.len ≤ 9223372036854775807 := fun a => ⟨rfl, hw.fits, by simp only [len_slc, List.length_nil]; omega, by simp only [len_slc, List.length_nil]; omega⟩
  have cpy := fun a b => copy_at (α := Wr) (s := 4) rfl hw a b
  have cl : ∀ a b, (D.slc a 4 (List.append (D.rows (D.slc b 4 [])) (D.rows w0))).len = w0.len := fun a b => by rw [D.Is.length (α := Wr), (cpy a b).2, hwl]
  have f4 : ∀ a b, 0 ≤ x ∧ x < ((D.slc a 4 (List.append (D.rows (D.slc b 4 [])) (D.rows w0))).len : Int) ∧ (D.slc a 4 (List.append (D.rows (D.slc b 4 [])) (D.rows w0))).sz = 4 := fun a b => ⟨a0, by rw [cl]; omega, rfl⟩
  have f5 : ∀ a b, x.toNat < (D.slc a 4 (List.append (D.rows (D.slc b 4 [])) (D.rows w0))).len ∧ 4 ≤ (D.slc a 4 (List.append (D.rows (D.slc b 4 [])) (D.rows w0))).sz ∧ (D.slc a 4 (List.append (D.rows (D.slc b 4 [])) (D.rows w0))).sz = 4 := fun a b => ⟨by rw [cl]; omega, Nat.le_refl 4, rfl⟩
  have b1 : decide (x < 0) = false := decide_eq_false (by omega)
  have b2 : decide (x ≥ (w0.len : Int)) = false := decide_eq_false (by omega)
  have b3 := decide_eq_false a1
  have b4 := decide_eq_false a2
  rw [b1, b2, b3, b4]
  repeat' first
   | with_reducible refine holds_all.2 fun _ => ?_
   | refine ⟨c1, ?_⟩
   | refine ⟨c2, ?_⟩
   | refine ⟨f0', ?_⟩
   | refine ⟨f1, ?_⟩
   | refine ⟨f2, ?_⟩
   | refine ⟨k1, ?_⟩
   | refine ⟨f3 _, ?_⟩
   | refine ⟨f4 _ _, ?_⟩
   | refine ⟨f5 _ _, ?_⟩
   | refine ⟨rfl, ?_⟩
   | refine ⟨fun hf => absurd hf (by decide), fun _ => ?_⟩
   | refine ⟨fun hf => absurd (a3.symm.trans hf) (by decide), fun _ => ?_⟩
   | fail
  rename_i h1 h2 _
  obtain ⟨s1, s2⟩ := set_full (α := Wr) (cpy (D.hd (h2 0 0)) (D.hd (h1 0 0))).1 (i := x.toNat) (by rw [(cpy _ _).2]; exact hk) (xs := [.int .i64 ((w0.to Wr)[x.toNat]).issued, .int .i64 clk, .int .i64 ((w0.to Wr)[x.toNat]).durable, .int .i64 (IntKind.i64.wrap (((w0.to Wr)[x.toNat]).times + 1))]) rfl ⟨_, _, _, _, rfl⟩ rfl
  rw [(cpy _ _).2] at s2
  have := ih (D.setCells (D.slc (D.hd (h2 0 0)) 4 (List.append (D.rows (D.slc (D.hd (h1 0 0)) 4 [])) (D.rows w0))) x.toNat 0 [.int .i64 ((w0.to Wr)[x.toNat]).issued, .int .i64 clk, .int .i64 ((w0.to Wr)[x.toNat]).durable, .int .i64 (IntKind.i64.wrap (((w0.to Wr)[x.toNat]).times + 1))], j + 1) ⟨hc, s1, by rw [D.Is.length (α := Wr), s2, List.length_set]; omega, by rw [s2]; exact a4⟩ (by simp only; omega)
  simp only at this
  rw [← wrap_succ hc (by omega)] at this
  exact this
 ·simp [hl] at hc
  have : j = (l.to Int).length := by omega
  subst this
  rw [List.drop_length] at hinv
  have hto : w0.to Wr = Wf := congrArg Prod.fst hinv
  refine ret_D (fun _ => w0) (fun E E' => ?_) (fun H' ho => ?_)
  ·rw [D.like_self hw hto]; rfl
  ·rw [D.like_self hw hto]; exact ho

theorem ack1_run {w : World} {H : HV} {cn cr cp cdl : Int} {cps css : D} {cv : Bool} {p1 p2 p3 p4 : Int} {pf : Bool} {p6 : Int} {pw ph : D} {q1 q2 q3 q4 : Int} {qf : Bool} {q6 : Int} {qw qh : D} {r1 r2 r3 r4 : Int} {rf : Bool} {r6 : Int} {rw rh : D} {fl wa wc : D} {now clk : Int} {rt : Bool} {st : Int} {l : D} (hd : l.Is Int) (hlen : (l.to Int).length ≤ 1048575) {Wf : List Wr} {w0 : D} (hw : w0.Is Wr) (hb : w0.len ≤ 1048576) (hinv : ackW clk qf (l.to Int) (w0.to Wr) = (Wf, true)) :
  Runs Try.prog ⟨w, H⟩ (ackL10 cn cr cp cdl cps css cv p1 p2 p3 p4 pf p6 pw ph q1 q2 q3 q4 qf q6 qw qh r1 r2 r3 r4 rf r6 rw rh fl wa w0 wc now clk rt st l 0) (RetD w H fun ds => .agg (List.map CV.sv (CV.int cn :: CV.int cr :: CV.int cp :: CV.int cdl :: CV.dat cps :: CV.dat css :: CV.bool cv :: CV.int p1 :: CV.int p2 :: CV.int p3 :: CV.int p4 :: CV.bool pf :: CV.int p6 :: CV.dat pw :: CV.dat ph :: CV.int q1 :: CV.int q2 :: CV.int q3 :: CV.int q4 :: CV.bool qf :: CV.int q6 :: CV.dat qw :: CV.dat qh :: CV.int r1 :: CV.int r2 :: CV.int r3 :: CV.int r4 :: CV.bool rf :: CV.int r6 :: CV.dat rw :: CV.dat rh :: CV.dat fl :: CV.dat wa :: CV.dat ((ds 0).like Wf) :: CV.dat wc :: CV.int now :: CV.int clk :: CV.bool rt :: CV.int st :: []))) := by
 refine unroll_sound rfl ?_
 obtain ⟨j, hj0, hj⟩ : ∃ j : Nat, j = 0 ∧ j ≤ (l.to Int).length := ⟨0, rfl, Nat.zero_le _⟩
 rw [show (0 : Int) = ((j : Nat) : Int) by rw [hj0]; rfl]
 replace hinv : ackW clk qf ((l.to Int).drop j) (w0.to Wr) = (Wf, true) := by rw [hj0]; exact hinv
 apply exec_sound (noCtr _) 400
 rw [ackgo10]
 have hl := D.Is.length (α := Int) l
 have hwl := D.Is.length (α := Wr) w0
 have hwr := rows_len (rows_of hw)
 refine ⟨fun hc => ?_, fun hc => ?_⟩
 ·simp [hl] at hc
  obtain ⟨c1, c2, c3⟩ := int_at hd hc
  obtain ⟨a0, hk, a1, a2, a3, a4⟩ := ack_step hc hinv
  obtain ⟨k1, k2, k3, k4, k5⟩ := wr_cell hw hk
  rw [c3, k2, k4, k5]
  generalize hx : (l.to Int)[j] = x at *
  have hsz := hw.size hk
  have f0 : (1 : Int) ≥ 0 ∧ (1 : Int) < ((3 : Nat) : Int) := by omega
  have f0' : (0 : Int) ≤ 1 ∧ (1 : Int) < ((3 : Nat) : Int) := by omega
  have f1 : 0 ≤ x ∧ x < (w0.len : Int) ∧ w0.sz = 4 := ⟨a0, by omega, hsz⟩
  have f2 : w0.HasCells x.toNat 0 [.int .i64, .int .i64, .int .i64, .int .i64] ∧ w0.sz = 4 := ⟨k1, hsz⟩
  have f3 : ∀ a, (D.slc a 4 []).sz = 4 ∧ w0.Fits 4 ∧ ((D.slc a 4 []).len + w0.len) * 32 ≤ 140737488355328 ∧ (D.slc a 4 []).len + w0.len ≤ 9223372036854775807 := fun a => ⟨rfl, hw.fits, by simp only [len_slc, List.length_nil]; omega, by simp only [len_slc, List.length_nil]; omega⟩
  have cpy := fun a b => copy_at (α := Wr) (s := 4) rfl hw a b
  have cl : ∀ a b, (D.slc a 4 (List.append (D.rows (D.slc b 4 [])) (D.rows w0))).len = w0.len := fun a b => by rw [D.Is.length (α := Wr), (cpy a b).2, hwl]
  have f4 : ∀ a b, 0 ≤ x ∧ x < ((D.slc a 4 (List.append (D.rows (D.slc b 4 [])) (D.rows w0))).len : Int) ∧ (D.slc a 4 (List.append (D.rows (D.slc b 4 [])) (D.rows w0))).sz = 4 := fun a b => ⟨a0, by rw [cl]; omega, rfl⟩
  have f5 : ∀ a b, x.toNat < (D.slc a 4 (List.append (D.rows (D.slc b 4 [])) (D.rows w0))).len ∧ 4 ≤ (D.slc a 4 (List.append (D.rows (D.slc b 4 [])) (D.rows w0))).sz ∧ (D.slc a 4 (List.append (D.rows (D.slc b 4 [])) (D.rows w0))).sz = 4 := fun a b => ⟨by rw [cl]; omega, Nat.le_refl 4, rfl⟩
  have b1 : decide (x < 0) = false := decide_eq_false (by omega)
  have b2 : decide (x ≥ (w0.len : Int)) = false := decide_eq_false (by omega)
  have b3 := decide_eq_false a1
  have b4 := decide_eq_false a2
  rw [b1, b2, b3, b4]
  repeat' first
   | with_reducible refine holds_all.2 fun _ => ?_
   | refine ⟨c1, ?_⟩
   | refine ⟨c2, ?_⟩
   | refine ⟨f0', ?_⟩
   | refine ⟨f1, ?_⟩
   | refine ⟨f2, ?_⟩
   | refine ⟨k1, ?_⟩
   | refine ⟨f3 _, ?_⟩
   | refine ⟨f4 _ _, ?_⟩
   | refine ⟨f5 _ _, ?_⟩
   | refine ⟨rfl, ?_⟩
   | refine ⟨fun hf => absurd hf (by decide), fun _ => ?_⟩
   | refine ⟨fun hf => absurd (a3.symm.trans hf) (by decide), fun _ => ?_⟩
   | fail
  rename_i h1 h2 _
  obtain ⟨s1, s2⟩ := set_full (α := Wr) (cpy (D.hd (h2 0 0)) (D.hd (h1 0 0))).1 (i := x.toNat) (by rw [(cpy _ _).2]; exact hk) (xs := [.int .i64 ((w0.to Wr)[x.toNat]).issued, .int .i64 clk, .int .i64 ((w0.to Wr)[x.toNat]).durable, .int .i64 (IntKind.i64.wrap (((w0.to Wr)[x.toNat]).times + 1))]) rfl ⟨_, _, _, _, rfl⟩ rfl
  rw [(cpy _ _).2] at s2
  have := ack1_loop (w := w) (H := H) (cn := cn) (cr := cr) (cp := cp) (cdl := cdl) (cps := cps) (css := css) (cv := cv) (p1 := p1) (p2 := p2) (p3 := p3) (p4 := p4) (pf := pf) (p6 := p6) (pw := pw) (ph := ph) (q1 := q1) (q2 := q2) (q3 := q3) (q4 := q4) (qf := qf) (q6 := q6) (qw := qw) (qh := qh) (r1 := r1) (r2 := r2) (r3 := r3) (r4 := r4) (rf := rf) (r6 := r6) (rw := rw) (rh := rh) (fl := fl) (wa := wa) (wc := wc) (now := now) (clk := clk) (rt := rt) (st := st) hd hlen (Wf := Wf) (D.setCells (D.slc (D.hd (h2 0 0)) 4 (List.append (D.rows (D.slc (D.hd (h1 0 0)) 4 [])) (D.rows w0))) x.toNat 0 [.int .i64 ((w0.to Wr)[x.toNat]).issued, .int .i64 clk, .int .i64 ((w0.to Wr)[x.toNat]).durable, .int .i64 (IntKind.i64.wrap (((w0.to Wr)[x.toNat]).times + 1))], j + 1) ⟨hc, s1, by rw [D.Is.length (α := Wr), s2, List.length_set]; omega, by rw [s2]; exact a4⟩
  simp only at this
  rw [← wrap_succ hc (by omega)] at this
  exact this
 ·simp [hl] at hc
  have : j = (l.to Int).length := by omega
  subst this
  rw [List.drop_length] at hinv
  have hto : w0.to Wr = Wf := congrArg Prod.fst hinv
  refine ret_D (fun _ => w0) (fun E E' => ?_) (fun H' ho => ?_)
  ·rw [D.like_self hw hto]; rfl
  ·rw [D.like_self hw hto]; exact ho

theorem ack2_loop {w : World} {H : HV} {cn cr cp cdl : Int} {cps css : D} {cv : Bool} {p1 p2 p3 p4 : Int} {pf : Bool} {p6 : Int} {pw ph : D} {q1 q2 q3 q4 : Int} {qf : Bool} {q6 : Int} {qw qh : D} {r1 r2 r3 r4 : Int} {rf : Bool} {r6 : Int} {rw rh : D} {fl wa wb : D} {now clk : Int} {rt : Bool} {st : Int} {l : D} (hd : l.Is Int) (hlen : (l.to Int).length ≤ 1048575) {Wf : List Wr} : ∀ q : D × Nat, (q.2 ≤ (l.to Int).length ∧ q.1.Is Wr ∧ q.1.len ≤ 1048576 ∧ ackW clk rf ((l.to Int).drop q.2) (q.1.to Wr) = (Wf, true)) →
  Runs Try.prog ⟨w, H⟩ (ackL21 cn cr cp cdl cps css cv p1 p2 p3 p4 pf p6 pw ph q1 q2 q3 q4 qf q6 qw qh r1 r2 r3 r4 rf r6 rw rh fl wa wb q.1 now clk rt st l q.2) (RetD w H fun ds => .agg (List.map CV.sv (CV.int cn :: CV.int cr :: CV.int cp :: CV.int cdl :: CV.dat cps :: CV.dat css :: CV.bool cv :: CV.int p1 :: CV.int p2 :: CV.int p3 :: CV.int p4 :: CV.bool pf :: CV.int p6 :: CV.dat pw :: CV.dat ph :: CV.int q1 :: CV.int q2 :: CV.int q3 :: CV.int q4 :: CV.bool qf :: CV.int q6 :: CV.dat qw :: CV.dat qh :: CV.int r1 :: CV.int r2 :: CV.int r3 :: CV.int r4 :: CV.bool rf :: CV.int r6 :: CV.dat rw :: CV.dat rh :: CV.dat fl :: CV.dat wa :: CV.dat wb :: CV.dat ((ds 0).like Wf) :: CV.int now :: CV.int clk :: CV.bool rt :: CV.int st :: []))) := by
 refine runs_loop (fun q : D × Nat => ackL21 cn cr cp cdl cps css cv p1 p2 p3 p4 pf p6 pw ph q1 q2 q3 q4 qf q6 qw qh r1 r2 r3 r4 rf r6 rw rh fl wa wb q.1 now clk rt st l q.2) (fun q => q.2 ≤ (l.to Int).length ∧ q.1.Is Wr ∧ q.1.len ≤ 1048576 ∧ ackW clk rf ((l.to Int).drop q.2) (q.1.to Wr) = (Wf, true)) (fun q => (l.to Int).length - q.2) (fun _ => rfl) ?_
 intro ⟨w0, j⟩ ⟨hj, hw, hb, hinv⟩ ih
 simp only at hj hw hb hinv
 apply exec_sound (noCtr _) 400
 rw [ackgo21]
 have hl := D.Is.length (α := Int) l
 have hwl := D.Is.length (α := Wr) w0
 have hwr := rows_len (rows_of hw)
 refine ⟨fun hc => ?_, fun hc => ?_⟩
 ·simp [hl] at hc
  obtain ⟨c1, c2, c3⟩ := int_at hd hc
  obtain ⟨a0, hk, a1, a2, a3, a4⟩ := ack_step hc hinv
  obtain ⟨k1, k2, k3, k4, k5⟩ := wr_cell hw hk
  rw [c3, k2, k4, k5]
  generalize hx : (l.to Int)[j] = x at *
  have hsz := hw.size hk
  have f0 : (2 : Int) ≥ 0 ∧ (2 : Int) < ((3 : Nat) : Int) := by omega
  have f0' : (0 : Int) ≤ 2 ∧ (2 : Int) < ((3 : Nat) : Int) := by omega
  have f1 : 0 ≤ x ∧ x < (w0.len : Int) ∧ w0.sz = 4 := ⟨a0, by omega, hsz⟩
  have f2 : w0.HasCells x.toNat 0 [.int .i64, .int .i64, .int .i64, .int .i64] ∧ w0.sz = 4 := ⟨k1, hsz⟩
  have f3 : ∀ a, (D.slc a 4 []).sz = 4 ∧ w0.Fits 4 ∧ ((D.slc a 4 []).len + w0.len) * 32 ≤ 140737488355328 ∧ (D.slc a 4 []).len + w0.len ≤ 9223372036854775807 := fun a => ⟨rfl, hw.fits, by simp only [len_slc, List.length_nil]; omega, by simp only [len_slc, List.length_nil]; omega⟩
  have cpy := fun a b => copy_at (α := Wr) (s := 4) rfl hw a b
  have cl : ∀ a b, (D.slc a 4 (List.append (D.rows (D.slc b 4 [])) (D.rows w0))).len = w0.len := fun a b => by rw [D.Is.length (α := Wr), (cpy a b).2, hwl]
  have f4 : ∀ a b, 0 ≤ x ∧ x < ((D.slc a 4 (List.append (D.rows (D.slc b 4 [])) (D.rows w0))).len : Int) ∧ (D.slc a 4 (List.append (D.rows (D.slc b 4 [])) (D.rows w0))).sz = 4 := fun a b => ⟨a0, by rw [cl]; omega, rfl⟩
  have f5 : ∀ a b, x.toNat < (D.slc a 4 (List.append (D.rows (D.slc b 4 [])) (D.rows w0))).len ∧ 4 ≤ (D.slc a 4 (List.append (D.rows (D.slc b 4 [])) (D.rows w0))).sz ∧ (D.slc a 4 (List.append (D.rows (D.slc b 4 [])) (D.rows w0))).sz = 4 := fun a b => ⟨by rw [cl]; omega, Nat.le_refl 4, rfl⟩
  have b1 : decide (x < 0) = false := decide_eq_false (by omega)
  have b2 : decide (x ≥ (w0.len : Int)) = false := decide_eq_false (by omega)
  have b3 := decide_eq_false a1
  have b4 := decide_eq_false a2
  rw [b1, b2, b3, b4]
  repeat' first
   | with_reducible refine holds_all.2 fun _ => ?_
   | refine ⟨c1, ?_⟩
   | refine ⟨c2, ?_⟩
   | refine ⟨f0', ?_⟩
   | refine ⟨f1, ?_⟩
   | refine ⟨f2, ?_⟩
   | refine ⟨k1, ?_⟩
   | refine ⟨f3 _, ?_⟩
   | refine ⟨f4 _ _, ?_⟩
   | refine ⟨f5 _ _, ?_⟩
   | refine ⟨rfl, ?_⟩
   | refine ⟨fun hf => absurd hf (by decide), fun _ => ?_⟩
   | refine ⟨fun hf => absurd (a3.symm.trans hf) (by decide), fun _ => ?_⟩
   | fail
  rename_i h1 h2 _
  obtain ⟨s1, s2⟩ := set_full (α := Wr) (cpy (D.hd (h2 0 0)) (D.hd (h1 0 0))).1 (i := x.toNat) (by rw [(cpy _ _).2]; exact hk) (xs := [.int .i64 ((w0.to Wr)[x.toNat]).issued, .int .i64 clk, .int .i64 ((w0.to Wr)[x.toNat]).durable, .int .i64 (IntKind.i64.wrap (((w0.to Wr)[x.toNat]).times + 1))]) rfl ⟨_, _, _, _, rfl⟩ rfl
  rw [(cpy _ _).2] at s2
  have := ih (D.setCells (D.slc (D.hd (h2 0 0)) 4 (List.append (D.rows (D.slc (D.hd (h1 0 0)) 4 [])) (D.rows w0))) x.toNat 0 [.int .i64 ((w0.to Wr)[x.toNat]).issued, .int .i64 clk, .int .i64 ((w0.to Wr)[x.toNat]).durable, .int .i64 (IntKind.i64.wrap (((w0.to Wr)[x.toNat]).times + 1))], j + 1) ⟨hc, s1, by rw [D.Is.length (α := Wr), s2, List.length_set]; omega, by rw [s2]; exact a4⟩ (by simp only; omega)
  simp only at this
  rw [← wrap_succ hc (by omega)] at this
  exact this
 ·simp [hl] at hc
  have : j = (l.to Int).length := by omega
  subst this
  rw [List.drop_length] at hinv
  have hto : w0.to Wr = Wf := congrArg Prod.fst hinv
  refine ret_D (fun _ => w0) (fun E E' => ?_) (fun H' ho => ?_)
  ·rw [D.like_self hw hto]; rfl
  ·rw [D.like_self hw hto]; exact ho

theorem ack2_run {w : World} {H : HV} {cn cr cp cdl : Int} {cps css : D} {cv : Bool} {p1 p2 p3 p4 : Int} {pf : Bool} {p6 : Int} {pw ph : D} {q1 q2 q3 q4 : Int} {qf : Bool} {q6 : Int} {qw qh : D} {r1 r2 r3 r4 : Int} {rf : Bool} {r6 : Int} {rw rh : D} {fl wa wb : D} {now clk : Int} {rt : Bool} {st : Int} {l : D} (hd : l.Is Int) (hlen : (l.to Int).length ≤ 1048575) {Wf : List Wr} {w0 : D} (hw : w0.Is Wr) (hb : w0.len ≤ 1048576) (hinv : ackW clk rf (l.to Int) (w0.to Wr) = (Wf, true)) :
  Runs Try.prog ⟨w, H⟩ (ackL20 cn cr cp cdl cps css cv p1 p2 p3 p4 pf p6 pw ph q1 q2 q3 q4 qf q6 qw qh r1 r2 r3 r4 rf r6 rw rh fl wa wb w0 now clk rt st l 0) (RetD w H fun ds => .agg (List.map CV.sv (CV.int cn :: CV.int cr :: CV.int cp :: CV.int cdl :: CV.dat cps :: CV.dat css :: CV.bool cv :: CV.int p1 :: CV.int p2 :: CV.int p3 :: CV.int p4 :: CV.bool pf :: CV.int p6 :: CV.dat pw :: CV.dat ph :: CV.int q1 :: CV.int q2 :: CV.int q3 :: CV.int q4 :: CV.bool qf :: CV.int q6 :: CV.dat qw :: CV.dat qh :: CV.int r1 :: CV.int r2 :: CV.int r3 :: CV.int r4 :: CV.bool rf :: CV.int r6 :: CV.dat rw :: CV.dat rh :: CV.dat fl :: CV.dat wa :: CV.dat wb :: CV.dat ((ds 0).like Wf) :: CV.int now :: CV.int clk :: CV.bool rt :: CV.int st :: []))) := by
 refine unroll_sound rfl ?_
 obtain ⟨j, hj0, hj⟩ : ∃ j : Nat, j = 0 ∧ j ≤ (l.to Int).length := ⟨0, rfl, Nat.zero_le _⟩
 rw [show (0 : Int) = ((j : Nat) : Int) by rw [hj0]; rfl]
 replace hinv : ackW clk rf ((l.to Int).drop j) (w0.to Wr) = (Wf, true) := by rw [hj0]; exact hinv
 apply exec_sound (noCtr _) 400
 rw [ackgo20]
 have hl := D.Is.length (α := Int) l
 have hwl := D.Is.length (α := Wr) w0
 have hwr := rows_len (rows_of hw)
 refine ⟨fun hc => ?_, fun hc => ?_⟩
 ·simp [hl] at hc
  obtain ⟨c1, c2, c3⟩ := int_at hd hc
  obtain ⟨a0, hk, a1, a2, a3, a4⟩ := ack_step hc hinv
  obtain ⟨k1, k2, k3, k4, k5⟩ := wr_cell hw hk
  rw [c3, k2, k4, k5]
  generalize hx : (l.to Int)[j] = x at *
  have hsz := hw.size hk
  have f0 : (2 : Int) ≥ 0 ∧ (2 : Int) < ((3 : Nat) : Int) := by omega
  have f0' : (0 : Int) ≤ 2 ∧ (2 : Int) < ((3 : Nat) : Int) := by omega
  have f1 : 0 ≤ x ∧ x < (w0.len : Int) ∧ w0.sz = 4 := ⟨a0, by omega, hsz⟩
  have f2 : w0.HasCells x.toNat 0 [.int .i64, .int .i64, .int .i64, .int .i64] ∧ w0.sz = 4 := ⟨k1, hsz⟩
  have f3 : ∀ a, (D.slc a 4 []).sz = 4 ∧ w0.Fits 4 ∧ ((D.slc a 4 []).len + w0.len) * 32 ≤ 140737488355328 ∧ (D.slc a 4 []).len + w0.len ≤ 9223372036854775807 := fun a => ⟨rfl, hw.fits, by simp only [len_slc, List.length_nil]; omega, by simp only [len_slc, List.length_nil]; omega⟩
  have cpy := fun a b => copy_at (α := Wr) (s := 4) rfl hw a b
  have cl : ∀ a b, (D.slc a 4 (List.append (D.rows (D.slc b 4 [])) (D.rows w0))).len = w0.len := fun a b => by rw [D.Is.length (α := Wr), (cpy a b).2, hwl]
  have f4 : ∀ a b, 0 ≤ x ∧ x < ((D.slc a 4 (List.append (D.rows (D.slc b 4 [])) (D.rows w0))).len : Int) ∧ (D.slc a 4 (List.append (D.rows (D.slc b 4 [])) (D.rows w0))).sz = 4 := fun a b => ⟨a0, by rw [cl]; omega, rfl⟩
  have f5 : ∀ a b, x.toNat < (D.slc a 4 (List.append (D.rows (D.slc b 4 [])) (D.rows w0))).len ∧ 4 ≤ (D.slc a 4 (List.append (D.rows (D.slc b 4 [])) (D.rows w0))).sz ∧ (D.slc a 4 (List.append (D.rows (D.slc b 4 [])) (D.rows w0))).sz = 4 := fun a b => ⟨by rw [cl]; omega, Nat.le_refl 4, rfl⟩
  have b1 : decide (x < 0) = false := decide_eq_false (by omega)
  have b2 : decide (x ≥ (w0.len : Int)) = false := decide_eq_false (by omega)
  have b3 := decide_eq_false a1
  have b4 := decide_eq_false a2
  rw [b1, b2, b3, b4]
  repeat' first
   | with_reducible refine holds_all.2 fun _ => ?_
   | refine ⟨c1, ?_⟩
   | refine ⟨c2, ?_⟩
   | refine ⟨f0', ?_⟩
   | refine ⟨f1, ?_⟩
   | refine ⟨f2, ?_⟩
   | refine ⟨k1, ?_⟩
   | refine ⟨f3 _, ?_⟩
   | refine ⟨f4 _ _, ?_⟩
   | refine ⟨f5 _ _, ?_⟩
   | refine ⟨rfl, ?_⟩
   | refine ⟨fun hf => absurd hf (by decide), fun _ => ?_⟩
   | refine ⟨fun hf => absurd (a3.symm.trans hf) (by decide), fun _ => ?_⟩
   | fail
  rename_i h1 h2 _
  obtain ⟨s1, s2⟩ := set_full (α := Wr) (cpy (D.hd (h2 0 0)) (D.hd (h1 0 0))).1 (i := x.toNat) (by rw [(cpy _ _).2]; exact hk) (xs := [.int .i64 ((w0.to Wr)[x.toNat]).issued, .int .i64 clk, .int .i64 ((w0.to Wr)[x.toNat]).durable, .int .i64 (IntKind.i64.wrap (((w0.to Wr)[x.toNat]).times + 1))]) rfl ⟨_, _, _, _, rfl⟩ rfl
  rw [(cpy _ _).2] at s2
  have := ack2_loop (w := w) (H := H) (cn := cn) (cr := cr) (cp := cp) (cdl := cdl) (cps := cps) (css := css) (cv := cv) (p1 := p1) (p2 := p2) (p3 := p3) (p4 := p4) (pf := pf) (p6 := p6) (pw := pw) (ph := ph) (q1 := q1) (q2 := q2) (q3 := q3) (q4 := q4) (qf := qf) (q6 := q6) (qw := qw) (qh := qh) (r1 := r1) (r2 := r2) (r3 := r3) (r4 := r4) (rf := rf) (r6 := r6) (rw := rw) (rh := rh) (fl := fl) (wa := wa) (wb := wb) (now := now) (clk := clk) (rt := rt) (st := st) hd hlen (Wf := Wf) (D.setCells (D.slc (D.hd (h2 0 0)) 4 (List.append (D.rows (D.slc (D.hd (h1 0 0)) 4 [])) (D.rows w0))) x.toNat 0 [.int .i64 ((w0.to Wr)[x.toNat]).issued, .int .i64 clk, .int .i64 ((w0.to Wr)[x.toNat]).durable, .int .i64 (IntKind.i64.wrap (((w0.to Wr)[x.toNat]).times + 1))], j + 1) ⟨hc, s1, by rw [D.Is.length (α := Wr), s2, List.length_set]; omega, by rw [s2]; exact a4⟩
  simp only at this
  rw [← wrap_succ hc (by omega)] at this
  exact this
 ·simp [hl] at hc
  have : j = (l.to Int).length := by omega
  subst this
  rw [List.drop_length] at hinv
  have hto : w0.to Wr = Wf := congrArg Prod.fst hinv
  refine ret_D (fun _ => w0) (fun E E' => ?_) (fun H' ho => ?_)
  ·rw [D.like_self hw hto]; rfl
  ·rw [D.like_self hw hto]; exact ho

theorem ack0_ent {w : World} {H : HV} {cn cr cp cdl : Int} {cps css : D} {cv : Bool} {p1 p2 p3 p4 : Int} {pf : Bool} {p6 : Int} {pw ph : D} {q1 q2 q3 q4 : Int} {qf : Bool} {q6 : Int} {qw qh : D} {r1 r2 r3 r4 : Int} {rf : Bool} {r6 : Int} {rw rh : D} {fl wa wb wc : D} {now clk : Int} {rt : Bool} {st : Int} {l : D} (h3 : l.Is Int) (h4 : (l.to Int).length ≤ 1048575) (h1 : wa.Is Wr) (h2 : wa.len ≤ 1048576) (h5 : (ackW clk pf (l.to Int) (wa.to Wr)).2 = true) :
  Runs Try.prog ⟨w, H⟩ (entry Try.prog 78 [.agg (cl9 cn cr cp cdl cps css cv p1 p2 p3 p4 pf p6 pw ph q1 q2 q3 q4 qf q6 qw qh r1 r2 r3 r4 rf r6 rw rh fl wa wb wc now clk rt st), .int .i64 0, .dat l]) (RetD w H fun ds => .agg (List.map CV.sv (CV.int cn :: CV.int cr :: CV.int cp :: CV.int cdl :: CV.dat cps :: CV.dat css :: CV.bool cv :: CV.int p1 :: CV.int p2 :: CV.int p3 :: CV.int p4 :: CV.bool pf :: CV.int p6 :: CV.dat pw :: CV.dat ph :: CV.int q1 :: CV.int q2 :: CV.int q3 :: CV.int q4 :: CV.bool qf :: CV.int q6 :: CV.dat qw :: CV.dat qh :: CV.int r1 :: CV.int r2 :: CV.int r3 :: CV.int r4 :: CV.bool rf :: CV.int r6 :: CV.dat rw :: CV.dat rh :: CV.dat fl :: CV.dat ((ds 0).like (ackW clk pf (l.to Int) (wa.to Wr)).1) :: CV.dat wb :: CV.dat wc :: CV.int now :: CV.int clk :: CV.bool rt :: CV.int st :: []))) := by
 apply exec_sound (noCtr _) 300
 rw [ackin0]
 exact ack0_run h3 h4 h1 h2 (Prod.ext rfl h5)

theorem ack1_ent {w : World} {H : HV} {cn cr cp cdl : Int} {cps css : D} {cv : Bool} {p1 p2 p3 p4 : Int} {pf : Bool} {p6 : Int} {pw ph : D} {q1 q2 q3 q4 : Int} {qf : Bool} {q6 : Int} {qw qh : D} {r1 r2 r3 r4 : Int} {rf : Bool} {r6 : Int} {rw rh : D} {fl wa wb wc : D} {now clk : Int} {rt : Bool} {st : Int} {l : D} (h3 : l.Is Int) (h4 : (l.to Int).length ≤ 1048575) (h1 : wb.Is Wr) (h2 : wb.len ≤ 1048576) (h5 : (ackW clk qf (l.to Int) (wb.to Wr)).2 = true) :
  Runs Try.prog ⟨w, H⟩ (entry Try.prog 78 [.agg (cl9 cn cr cp cdl cps css cv p1 p2 p3 p4 pf p6 pw ph q1 q2 q3 q4 qf q6 qw qh r1 r2 r3 r4 rf r6 rw rh fl wa wb wc now clk rt st), .int .i64 1, .dat l]) (RetD w H fun ds => .agg (List.map CV.sv (CV.int cn :: CV.int cr :: CV.int cp :: CV.int cdl :: CV.dat cps :: CV.dat css :: CV.bool cv :: CV.int p1 :: CV.int p2 :: CV.int p3 :: CV.int p4 :: CV.bool pf :: CV.int p6 :: CV.dat pw :: CV.dat ph :: CV.int q1 :: CV.int q2 :: CV.int q3 :: CV.int q4 :: CV.bool qf :: CV.int q6 :: CV.dat qw :: CV.dat qh :: CV.int r1 :: CV.int r2 :: CV.int r3 :: CV.int r4 :: CV.bool rf :: CV.int r6 :: CV.dat rw :: CV.dat rh :: CV.dat fl :: CV.dat wa :: CV.dat ((ds 0).like (ackW clk qf (l.to Int) (wb.to Wr)).1) :: CV.dat wc :: CV.int now :: CV.int clk :: CV.bool rt :: CV.int st :: []))) := by
 apply exec_sound (noCtr _) 300
 rw [ackin1]
 exact ack1_run h3 h4 h1 h2 (Prod.ext rfl h5)

theorem ack2_ent {w : World} {H : HV} {cn cr cp cdl : Int} {cps css : D} {cv : Bool} {p1 p2 p3 p4 : Int} {pf : Bool} {p6 : Int} {pw ph : D} {q1 q2 q3 q4 : Int} {qf : Bool} {q6 : Int} {qw qh : D} {r1 r2 r3 r4 : Int} {rf : Bool} {r6 : Int} {rw rh : D} {fl wa wb wc : D} {now clk : Int} {rt : Bool} {st : Int} {l : D} (h3 : l.Is Int) (h4 : (l.to Int).length ≤ 1048575) (h1 : wc.Is Wr) (h2 : wc.len ≤ 1048576) (h5 : (ackW clk rf (l.to Int) (wc.to Wr)).2 = true) :
  Runs Try.prog ⟨w, H⟩ (entry Try.prog 78 [.agg (cl9 cn cr cp cdl cps css cv p1 p2 p3 p4 pf p6 pw ph q1 q2 q3 q4 qf q6 qw qh r1 r2 r3 r4 rf r6 rw rh fl wa wb wc now clk rt st), .int .i64 2, .dat l]) (RetD w H fun ds => .agg (List.map CV.sv (CV.int cn :: CV.int cr :: CV.int cp :: CV.int cdl :: CV.dat cps :: CV.dat css :: CV.bool cv :: CV.int p1 :: CV.int p2 :: CV.int p3 :: CV.int p4 :: CV.bool pf :: CV.int p6 :: CV.dat pw :: CV.dat ph :: CV.int q1 :: CV.int q2 :: CV.int q3 :: CV.int q4 :: CV.bool qf :: CV.int q6 :: CV.dat qw :: CV.dat qh :: CV.int r1 :: CV.int r2 :: CV.int r3 :: CV.int r4 :: CV.bool rf :: CV.int r6 :: CV.dat rw :: CV.dat rh :: CV.dat fl :: CV.dat wa :: CV.dat wb :: CV.dat ((ds 0).like (ackW clk rf (l.to Int) (wc.to Wr)).1) :: CV.int now :: CV.int clk :: CV.bool rt :: CV.int st :: []))) := by
 apply exec_sound (noCtr _) 300
 rw [ackin2]
 exact ack2_run h3 h4 h1 h2 (Prod.ext rfl h5)

theorem gr_shape {l : List CV} (h : ShapeC grK l) : ∃ cn cr cp cdl cps css cv p1 p2 p3 p4 pf p6 pw ph q1 q2 q3 q4 qf q6 qw qh r1 r2 r3 r4 rf r6 rw rh fl wa wb wc now clk rt st, l = (cv9 cn cr cp cdl cps css cv p1 p2 p3 p4 pf p6 pw ph q1 q2 q3 q4 qf q6 qw qh r1 r2 r3 r4 rf r6 rw rh fl wa wb wc now clk rt st) := by
 simp only [grK, ShapeC] at h
 obtain ⟨cn, _, rfl, cr, _, rfl, cp, _, rfl, cdl, _, rfl, cps, _, rfl, css, _, rfl, cv, _, rfl, p1, _, rfl, p2, _, rfl, p3, _, rfl, p4, _, rfl, pf, _, rfl, p6, _, rfl, pw, _, rfl, ph, _, rfl, q1, _, rfl, q2, _, rfl, q3, _, rfl, q4, _, rfl, qf, _, rfl, q6, _, rfl, qw, _, rfl, qh, _, rfl, r1, _, rfl, r2, _, rfl, r3, _, rfl, r4, _, rfl, rf, _, rfl, r6, _, rfl, rw, _, rfl, rh, _, rfl, fl, _, rfl, wa, _, rfl, wb, _, rfl, wc, _, rfl, now, _, rfl, clk, _, rfl, rt, _, rfl, st, _, rfl, rfl⟩ := h
 exact ⟨cn, cr, cp, cdl, cps, css, cv, p1, p2, p3, p4, pf, p6, pw, ph, q1, q2, q3, q4, qf, q6, qw, qh, r1, r2, r3, r4, rf, r6, rw, rh, fl, wa, wb, wc, now, clk, rt, st, rfl⟩

end Go.Proofs.Ytoechplbhbalaaa
end
section
open Go Go.Proofs Sx
namespace Go.Proofs.Ytoechplbhbalaaa
set_option maxRecDepth 100000
set_option maxHeartbeats 0
theorem spAck_eq0 {cn cr cp cdl : Int} {cps css : D} {cv : Bool} {p1 p2 p3 p4 : Int} {pf : Bool} {p6 : Int} {pw ph : D} {q1 q2 q3 q4 : Int} {qf : Bool} {q6 : Int} {qw qh : D} {r1 r2 r3 r4 : Int} {rf : Bool} {r6 : Int} {rw rh : D} {fl wa wb wc : D} {now clk : Int} {rt : Bool} {st : Int} {l : D} (h : ShapeC grK (cv9 cn cr cp cdl cps css cv p1 p2 p3 p4 pf p6 pw ph q1 q2 q3 q4 qf q6 qw qh r1 r2 r3 r4 rf r6 rw rh fl wa wb wc now clk rt st)) : spAck (⟨(cv9 cn cr cp cdl cps css cv p1 p2 p3 p4 pf p6 pw ph q1 q2 q3 q4 qf q6 qw qh r1 r2 r3 r4 rf r6 rw rh fl wa wb wc now clk rt st), h⟩, Int.ofNat 0, l) = .data [wa.Is Wr ∧ wa.len ≤ 1048576 ∧ l.Is Int ∧ l.len ≤ 1048575 ∧ (ackW clk pf (l.to Int) (wa.to Wr)).2 = true] (fun ds => .agg (List.map CV.sv (CV.int cn :: CV.int cr :: CV.int cp :: CV.int cdl :: CV.dat cps :: CV.dat css :: CV.bool cv :: CV.int p1 :: CV.int p2 :: CV.int p3 :: CV.int p4 :: CV.bool pf :: CV.int p6 :: CV.dat pw :: CV.dat ph :: CV.int q1 :: CV.int q2 :: CV.int q3 :: CV.int q4 :: CV.bool qf :: CV.int q6 :: CV.dat qw :: CV.dat qh :: CV.int r1 :: CV.int r2 :: CV.int r3 :: CV.int r4 :: CV.bool rf :: CV.int r6 :: CV.dat rw :: CV.dat rh :: CV.dat fl :: CV.dat ((ds 0).like (ackW clk pf (l.to Int) (wa.to Wr)).1) :: CV.dat wb :: CV.dat wc :: CV.int now :: CV.int clk :: CV.bool rt :: CV.int st :: []))) := by kernel_rfl
theorem spAck_eq1 {cn cr cp cdl : Int} {cps css : D} {cv : Bool} {p1 p2 p3 p4 : Int} {pf : Bool} {p6 : Int} {pw ph : D} {q1 q2 q3 q4 : Int} {qf : Bool} {q6 : Int} {qw qh : D} {r1 r2 r3 r4 : Int} {rf : Bool} {r6 : Int} {rw rh : D} {fl wa wb wc : D} {now clk : Int} {rt : Bool} {st : Int} {l : D} (h : ShapeC grK (cv9 cn cr cp cdl cps css cv p1 p2 p3 p4 pf p6 pw ph q1 q2 q3 q4 qf q6 qw qh r1 r2 r3 r4 rf r6 rw rh fl wa wb wc now clk rt st)) : spAck (⟨(cv9 cn cr cp cdl cps css cv p1 p2 p3 p4 pf p6 pw ph q1 q2 q3 q4 qf q6 qw qh r1 r2 r3 r4 rf r6 rw rh fl wa wb wc now clk rt st), h⟩, Int.ofNat 1, l) = .data [wb.Is Wr ∧ wb.len ≤ 1048576 ∧ l.Is Int ∧ l.len ≤ 1048575 ∧ (ackW clk qf (l.to Int) (wb.to Wr)).2 = true] (fun ds => .agg (List.map CV.sv (CV.int cn :: CV.int cr :: CV.int cp :: CV.int cdl :: CV.dat cps :: CV.dat css :: CV.bool cv :: CV.int p1 :: CV.int p2 :: CV.int p3 :: CV.int p4 :: CV.bool pf :: CV.int p6 :: CV.dat pw :: CV.dat ph :: CV.int q1 :: CV.int q2 :: CV.int q3 :: CV.int q4 :: CV.bool qf :: CV.int q6 :: CV.dat qw :: CV.dat qh :: CV.int r1 :: CV.int r2 :: CV.int r3 :: CV.int r4 :: CV.bool rf :: CV.int r6 :: CV.dat rw :: CV.dat rh :: CV.dat fl :: CV.dat wa :: CV.dat ((ds 0).like (ackW clk qf (l.to Int) (wb.to Wr)).1) :: CV.dat wc :: CV.int now :: CV.int clk :: CV.bool rt :: CV.int st :: []))) := by kernel_rfl
theorem spAck_eq2 {cn cr cp cdl : Int} {cps css : D} {cv : Bool} {p1 p2 p3 p4 : Int} {pf : Bool} {p6 : Int} {pw ph : D} {q1 q2 q3 q4 : Int} {qf : Bool} {q6 : Int} {qw qh : D} {r1 r2 r3 r4 : Int} {rf : Bool} {r6 : Int} {rw rh : D} {fl wa wb wc : D} {now clk : Int} {rt : Bool} {st : Int} {l : D} (h : ShapeC grK (cv9 cn cr cp cdl cps css cv p1 p2 p3 p4 pf p6 pw ph q1 q2 q3 q4 qf q6 qw qh r1 r2 r3 r4 rf r6 rw rh fl wa wb wc now clk rt st)) : spAck (⟨(cv9 cn cr cp cdl cps css cv p1 p2 p3 p4 pf p6 pw ph q1 q2 q3 q4 qf q6 qw qh r1 r2 r3 r4 rf r6 rw rh fl wa wb wc now clk rt st), h⟩, Int.ofNat 2, l) = .data [wc.Is Wr ∧ wc.len ≤ 1048576 ∧ l.Is Int ∧ l.len ≤ 1048575 ∧ (ackW clk rf (l.to Int) (wc.to Wr)).2 = true] (fun ds => .agg (List.map CV.sv (CV.int cn :: CV.int cr :: CV.int cp :: CV.int cdl :: CV.dat cps :: CV.dat css :: CV.bool cv :: CV.int p1 :: CV.int p2 :: CV.int p3 :: CV.int p4 :: CV.bool pf :: CV.int p6 :: CV.dat pw :: CV.dat ph :: CV.int q1 :: CV.int q2 :: CV.int q3 :: CV.int q4 :: CV.bool qf :: CV.int q6 :: CV.dat qw :: CV.dat qh :: CV.int r1 :: CV.int r2 :: CV.int r3 :: CV.int r4 :: CV.bool rf :: CV.int r6 :: CV.dat rw :: CV.dat rh :: CV.dat fl :: CV.dat wa :: CV.dat wb :: CV.dat ((ds 0).like (ackW clk rf (l.to Int) (wc.to Wr)).1) :: CV.int now :: CV.int clk :: CV.bool rt :: CV.int st :: []))) := by kernel_rfl
theorem spAck_no {cn cr cp cdl : Int} {cps css : D} {cv : Bool} {p1 p2 p3 p4 : Int} {pf : Bool} {p6 : Int} {pw ph : D} {q1 q2 q3 q4 : Int} {qf : Bool} {q6 : Int} {qw qh : D} {r1 r2 r3 r4 : Int} {rf : Bool} {r6 : Int} {rw rh : D} {fl wa wb wc : D} {now clk : Int} {rt : Bool} {st : Int} {l : D} {n : Int} (h : ShapeC grK (cv9 cn cr cp cdl cps css cv p1 p2 p3 p4 pf p6 pw ph q1 q2 q3 q4 qf q6 qw qh r1 r2 r3 r4 rf r6 rw rh fl wa wb wc now clk rt st)) (h0 : n ≠ 0) (h1 : n ≠ 1) (h2 : n ≠ 2) : spAck (⟨(cv9 cn cr cp cdl cps css cv p1 p2 p3 p4 pf p6 pw ph q1 q2 q3 q4 qf q6 qw qh r1 r2 r3 r4 rf r6 rw rh fl wa wb wc now clk rt st), h⟩, n, l) = .no := by
 match n, h0, h1, h2 with
 | .ofNat 0, h0, _, _ => exact absurd rfl h0
 | .ofNat 1, _, h1, _ => exact absurd rfl h1
 | .ofNat 2, _, _, h2 => exact absurd rfl h2
 | .ofNat (m + 3), _, _, _ => rfl
 | .negSucc _, _, _, _ => rfl
theorem spSend_eq {cn cr cp cdl : Int} {cps css : D} {cv : Bool} {p1 p2 p3 p4 : Int} {pf : Bool} {p6 : Int} {pw ph : D} {q1 q2 q3 q4 : Int} {qf : Bool} {q6 : Int} {qw qh : D} {r1 r2 r3 r4 : Int} {rf : Bool} {r6 : Int} {rw rh : D} {fl wa wb wc : D} {now clk : Int} {rt : Bool} {st : Int} {l : D} (h : ShapeC grK (cv9 cn cr cp cdl cps css cv p1 p2 p3 p4 pf p6 pw ph q1 q2 q3 q4 qf q6 qw qh r1 r2 r3 r4 rf r6 rw rh fl wa wb wc now clk rt st)) : spSend (⟨(cv9 cn cr cp cdl cps css cv p1 p2 p3 p4 pf p6 pw ph q1 q2 q3 q4 qf q6 qw qh r1 r2 r3 r4 rf r6 rw rh fl wa wb wc now clk rt st), h⟩, l) = .data [fl.Is Msg ∧ fl.len ≤ 1048576 ∧ l.Is Msg ∧ l.len ≤ 1048576] (fun ds => .agg (List.map CV.sv (CV.int cn :: CV.int cr :: CV.int cp :: CV.int cdl :: CV.dat cps :: CV.dat css :: CV.bool cv :: CV.int p1 :: CV.int p2 :: CV.int p3 :: CV.int p4 :: CV.bool pf :: CV.int p6 :: CV.dat pw :: CV.dat ph :: CV.int q1 :: CV.int q2 :: CV.int q3 :: CV.int q4 :: CV.bool qf :: CV.int q6 :: CV.dat qw :: CV.dat qh :: CV.int r1 :: CV.int r2 :: CV.int r3 :: CV.int r4 :: CV.bool rf :: CV.int r6 :: CV.dat rw :: CV.dat rh :: CV.dat ((ds 0).like (fl.to Msg ++ l.to Msg)) :: CV.dat wa :: CV.dat wb :: CV.dat wc :: CV.int now :: CV.int clk :: CV.bool rt :: CV.int st :: []))) := by kernel_rfl
theorem lawAck : Law Try.prog 78 (((rdCells grK).three rdInt rdD).sp spAck) := by
 refine law_in _ (by kernel_rfl) fun H w ⟨⟨cs, hsh⟩, node, l⟩ hok => ?_
 obtain ⟨cn, cr, cp, cdl, cps, css, cv, p1, p2, p3, p4, pf, p6, pw, ph, q1, q2, q3, q4, qf, q6, qw, qh, r1, r2, r3, r4, rf, r6, rw, rh, fl, wa, wb, wc, now, clk, rt, st, rfl⟩ := gr_shape hsh
 by_cases e0 : node = 0
 ·subst e0
  rw [show (0 : Int) = Int.ofNat 0 from rfl, spAck_eq0]
  intro hp
  obtain ⟨h1, h2, h3, h4, h5⟩ := hp _ (List.mem_singleton.2 rfl)
  rw [D.Is.length (α := Int)] at h4
  exact ack0_ent h3 h4 h1 h2 h5
 by_cases e1 : node = 1
 ·subst e1
  rw [show (1 : Int) = Int.ofNat 1 from rfl, spAck_eq1]
  intro hp
  obtain ⟨h1, h2, h3, h4, h5⟩ := hp _ (List.mem_singleton.2 rfl)
  rw [D.Is.length (α := Int)] at h4
  exact ack1_ent h3 h4 h1 h2 h5
 by_cases e2 : node = 2
 ·subst e2
  rw [show (2 : Int) = Int.ofNat 2 from rfl, spAck_eq2]
  intro hp
  obtain ⟨h1, h2, h3, h4, h5⟩ := hp _ (List.mem_singleton.2 rfl)
  rw [D.Is.length (α := Int)] at h4
  exact ack2_ent h3 h4 h1 h2 h5
 ·rw [spAck_no hsh e0 e1 e2]
  trivial

theorem send_ent {w : World} {H : HV} {cn cr cp cdl : Int} {cps css : D} {cv : Bool} {p1 p2 p3 p4 : Int} {pf : Bool} {p6 : Int} {pw ph : D} {q1 q2 q3 q4 : Int} {qf : Bool} {q6 : Int} {qw qh : D} {r1 r2 r3 r4 : Int} {rf : Bool} {r6 : Int} {rw rh : D} {fl wa wb wc : D} {now clk : Int} {rt : Bool} {st : Int} {l : D} (h1 : fl.Is Msg) (h2 : fl.len ≤ 1048576) (h3 : l.Is Msg) (h4 : l.len ≤ 1048576) :
  Runs Try.prog ⟨w, H⟩ (entry Try.prog 77 [.agg (cl9 cn cr cp cdl cps css cv p1 p2 p3 p4 pf p6 pw ph q1 q2 q3 q4 qf q6 qw qh r1 r2 r3 r4 rf r6 rw rh fl wa wb wc now clk rt st), .dat l]) (RetD w H fun ds => .agg (List.map CV.sv (CV.int cn :: CV.int cr :: CV.int cp :: CV.int cdl :: CV.dat cps :: CV.dat css :: CV.bool cv :: CV.int p1 :: CV.int p2 :: CV.int p3 :: CV.int p4 :: CV.bool pf :: CV.int p6 :: CV.dat pw :: CV.dat ph :: CV.int q1 :: CV.int q2 :: CV.int q3 :: CV.int q4 :: CV.bool qf :: CV.int q6 :: CV.dat qw :: CV.dat qh :: CV.int r1 :: CV.int r2 :: CV.int r3 :: CV.int r4 :: CV.bool rf :: CV.int r6 :: CV.dat rw :: CV.dat rh :: CV.dat ((ds 0).like (fl.to Msg ++ l.to Msg)) :: CV.dat wa :: CV.dat wb :: CV.dat wc :: CV.int now :: CV.int clk :: CV.bool rt :: CV.int st :: []))) := by
 have l1 := D.Is.length (α := Msg) fl
 have l2 := rows_len (rows_of h1)
 have l3 := D.Is.length (α := Msg) l
 have l4 := rows_len (rows_of h3)
 apply exec_sound (noCtr _) 300
 rw [send_in]
 intro hs
 have e1 : (List.append (D.rows (D.slc (D.hd (hs 0 0)) 8 [])) (D.rows fl)).length = fl.rows.length := rfl
 refine ⟨⟨rfl, h1.fits, by simp only [len_slc, List.length_nil]; omega, by simp only [len_slc, List.length_nil]; omega⟩, fun hs1 => ⟨⟨rfl, h3.fits, by simp only [len_slc, e1]; omega, by simp only [len_slc, e1]; omega⟩, fun hs2 => ?_⟩⟩
 have hr : SRows Msg (List.append (D.rows fl) (D.rows l)) (fl.to Msg ++ l.to Msg) := rows_app (rows_of h1) (rows_of h3)
 obtain ⟨i1, i2⟩ := is_of (h := D.hd (hs2 0 0)) (s := 8) rfl hr
 refine ret_D (fun _ => D.slc (D.hd (hs2 0 0)) 8 (List.append (D.rows fl) (D.rows l))) (fun E E' => ?_) (fun H' ho => ?_)
 ·rw [D.like_self i1 i2]; rfl
 ·rw [D.like_self i1 i2]; exact ho

theorem lawSend : Law Try.prog 77 (((rdCells grK).two rdD).sp spSend) := by
 refine law_in _ (by kernel_rfl) fun H w ⟨⟨cs, hsh⟩, l⟩ hok => ?_
 obtain ⟨cn, cr, cp, cdl, cps, css, cv, p1, p2, p3, p4, pf, p6, pw, ph, q1, q2, q3, q4, qf, q6, qw, qh, r1, r2, r3, r4, rf, r6, rw, rh, fl, wa, wb, wc, now, clk, rt, st, rfl⟩ := gr_shape hsh
 rw [spSend_eq]
 intro hp
 obtain ⟨h1, h2, h3, h4⟩ := hp _ (List.mem_singleton.2 rfl)
 exact send_ent h1 h2 h3 h4
end Go.Proofs.Ytoechplbhbalaaa
end
section
namespace Sx
open Go RowKit
class Plain (α : Type) [Codec α] where
 cells : D → Nat → α → List D
 right : ∀ d i r, d.rows[i]? = some r → Codec.ok α r → cells d i (Codec.dec r) = r

section
variable {α : Type} [Codec α] [Plain α]

def plainRows (d : D) : Nat → List α → List (List D)
 | _, [] => []
 | i, x :: r => Plain.cells d i x :: plainRows d (i + 1) r

def D.plain (d : D) (l : List α) : D :=
 .slc d.hd (match l with | [] => d.sz | _ :: _ => Codec.sz α) (plainRows d 0 l)

theorem plainRows_eq (d : D) : ∀ (rows : List (List D)) (i : Nat), (∀ j, (h : j < rows.length) → d.rows[i + j]? = some rows[j]) → (∀ r, r ∈ rows → Codec.ok α r) →
  plainRows d i (rows.map (Codec.dec (α := α))) = rows
 | [], _, _, _ => rfl
 | r :: rs, i, h, ho => by
  simp only [List.map_cons, plainRows]
  rw [Plain.right d i r (h 0 (by simp)) (ho r (by simp)), plainRows_eq d rs (i + 1) (fun j hj => by have := h (j + 1) (by simpa using hj); simpa [Nat.add_assoc, Nat.add_comm 1 j] using this) fun r' hr' => ho r' (by simp [hr'])]

theorem plain_self {d : D} (h : d.Is α) : d.plain (d.to α) = d := by
  obtain ⟨a, b, c, rfl, h1, h2⟩ := h
  unfold D.plain D.to
  simp only [D.rows, D.hd]
  rw [plainRows_eq (α := α) (.slc a b c) c 0 (fun j hj => by simp [D.rows, hj]) h2]
  cases c with
  | nil => rfl
  | cons x r => rcases h1 with h1 | h1
                · cases h1
                · subst h1; rfl

theorem plain_like (d : D) (l : List α) : (d.like l).plain l = d.like l := by
 have := plain_self (D.like_is d l)
 rwa [D.like_to] at this
end

instance : Plain Int where
 cells _ _ n := [.int .i64 n]
 right d i r _ h := by obtain ⟨n, rfl⟩ := h; rfl

instance : Plain Byte where
 cells _ _ n := [.int .u8 n.n]
 right d i r _ h := by obtain ⟨n, rfl⟩ := h; rfl
def intRows : List (List D) → Bool
 | [] => true
 | r :: rs => match r with
  | [.int .i64 _] => intRows rs
  | _ => false
def D.allInt (d : D) : Bool :=
 match d with
 | .slc _ s rows => (match rows with | [] => true | _ :: _ => s == 1) && intRows rows
 | _ => false
theorem intRows_ok : ∀ (rows : List (List D)), intRows rows = true → ∀ r, r ∈ rows → Codec.ok Int r
 | [], _, r, h => by cases h
 | x :: rs, h, r, hr => by
  unfold intRows at h
  split at h
  ·rcases List.mem_cons.1 hr with rfl | hr
   ·exact ⟨_, rfl⟩
   ·exact intRows_ok rs h r hr
  ·cases h
theorem allInt_is {d : D} (h : d.allInt = true) : d.Is Int := by
 unfold D.allInt at h
 split at h
 ·rename_i a s rows
  simp only [Bool.and_eq_true] at h
  refine ⟨_, _, _, rfl, ?_, intRows_ok _ h.2⟩
  cases rows with
  | nil => exact .inl rfl
  | cons x r => right; simpa using h.1
 ·cases h
theorem law_alt {P : Program} {f : FuncId} {β : Type} {r : Rd β} {sp sp' : β → SpecR} (h : Law P f (r.sp sp))
  (hh : ∀ b, match sp' b with
   | .no => True
   | .data ps' g' => ∃ ps g, sp b = .data ps g ∧ ((∀ p, p ∈ ps' → p) → ∀ p, p ∈ ps → p) ∧ ∀ ds, ∃ ds', g' ds' = g ds
   | .scalar ps' v' => ∃ ps v, sp b = .scalar ps v ∧ ((∀ p, p ∈ ps' → p) → ∀ p, p ∈ ps → p) ∧ v' = v) : Law P f (r.sp sp') := by
 refine ⟨h.1, fun H E args hargs => ?_⟩
 have h2 := h.2 H E args hargs
 unfold Rd.sp at h2 ⊢
 cases hr : r.read args with
 | none => trivial
 | some b =>
  have hb := hh b
  rw [hr] at h2
  simp only at h2 ⊢
  cases hs : sp' b with
  | no => trivial
  | scalar ps' v' =>
   rw [hs] at hb
   obtain ⟨ps, v, e, h3, rfl⟩ := hb
   rw [e] at h2
   exact fun hp => h2 (h3 hp)
  | data ps' g' =>
   rw [hs] at hb
   obtain ⟨ps, g, e, h3, h4⟩ := hb
   rw [e] at h2
   intro hp w hw
   refine Calls.mono (h2 (h3 hp) w hw) fun e w' ⟨u, H', h5, h6, hs', h7, h8⟩ => ?_
   obtain ⟨ds', h9⟩ := h4 hs'
   exact ⟨u, H', h5, h6, ds', by rw [h9]; exact h7, by rw [h9]; exact h8⟩
end Sx
end
section
namespace Sx
open Go
noncomputable def Tree.dec : Tree → Tree
 | .leaf c => .leaf c
 | .ret v => .ret v
 | .br b t f => match b with
  | true => t.dec
  | false => f.dec
 | .need p t => .need p t.dec
 | .all f => .all fun hs => (f hs).dec
 | .stuck => .stuck

theorem Tree.dec_holds {P : Program} {C : Ctx} {R : Value → World → Prop} (t : Tree) : t.dec.holds P C R → t.holds P C R := by
 induction t with
 | leaf _ => exact id
 | ret _ => exact id
 | br b t f iht ihf =>
  intro h
  cases b with
  | true => exact ⟨fun _ => iht h, fun h' => absurd h' (by decide)⟩
  | false => exact ⟨fun h' => absurd h' (by decide), fun _ => ihf h⟩
 | need _ t ih => exact fun h => ⟨h.1, ih h.2⟩
 | all f ih => exact fun h hs => ih hs (h hs)
 | stuck => exact id

theorem dec_sound {P : Program} {C : Ctx} {R : Value → World → Prop} {cs : Ctrs} (hcs : cs.Ok P) (U : FuncId → Bool) (n : Nat) (c : Conf) {t : Tree}
  (e : (execU P cs U n c).dec = t) (h : t.holds P C R) : Runs P C c R :=
 execU_sound hcs U n c (Tree.dec_holds _ (by rw [e]; exact h))
end Sx
end
section
open Go Go.Proofs Sx
namespace Sx
instance : Plain Bool where
 cells _ _ b := [.bool b]
 right d i r _ h := by obtain ⟨n, rfl⟩ := h; rfl
instance : Plain Msg where
 cells d i m := [.int .i64 m.kind, .int .i64 m.frm, .int .i64 m.to, .int .i64 m.number, .int .i64 m.value, .int .i64 m.epoch, (d.cell i 6).plain m.values, (d.cell i 7).plain m.body]
 right d i r h ho := by
  obtain ⟨a, b, c, e, f, g, v, w, rfl, hv, hw⟩ := ho
  obtain ⟨p1, p2, p3, rfl⟩ := hv.slc
  obtain ⟨q1, q2, q3, rfl⟩ := hw.slc
  have e1 : d.cell i 6 = .slc p1 p2 p3 := by simp [D.cell, D.cellAt, h]
  have e2 : d.cell i 7 = .slc q1 q2 q3 := by simp [D.cell, D.cellAt, h]
  simp only [Codec.dec, e1, e2, plain_self hv, plain_self hw]

def pI (d : D) (l : List Int) : D := d.plain l
def pB (d : D) (l : List Bool) : D := d.plain l
noncomputable def pM (d : D) (l : List Msg) : D := d.plain l
theorem pI_like (d : D) (l : List Int) : pI (d.like l) l = d.like l := plain_like d l
theorem pB_like (d : D) (l : List Bool) : pB (d.like l) l = d.like l := plain_like d l
theorem pM_like (d : D) (l : List Msg) : pM (d.like l) l = d.like l := plain_like d l

def boolRows : List (List D) → Bool
 | [] => true
 | r :: rs => match r with
  | [.bool _] => boolRows rs
  | _ => false
def D.allBool (d : D) : Bool :=
 match d with
 | .slc _ s rows => (match rows with | [] => true | _ :: _ => s == 1) && boolRows rows
 | _ => false
theorem boolRows_ok : ∀ (rows : List (List D)), boolRows rows = true → ∀ r, r ∈ rows → Codec.ok Bool r
 | [], _, r, h => by cases h
 | x :: rs, h, r, hr => by
  unfold boolRows at h
  split at h
  ·rcases List.mem_cons.1 hr with rfl | hr
   ·exact ⟨_, rfl⟩
   ·exact boolRows_ok rs h r hr
  ·cases h
theorem allBool_is {d : D} (h : d.allBool = true) : d.Is Bool := by
 unfold D.allBool at h
 split at h
 ·rename_i a s rows
  simp only [Bool.and_eq_true] at h
  refine ⟨_, _, _, rfl, ?_, boolRows_ok _ h.2⟩
  cases rows with
  | nil => exact .inl rfl
  | cons x r => right; simpa using h.1
 ·cases h

def iff (b : Bool) (s : SpecR) : SpecR := match b with | true => s | false => .no
def tabD {γ : Type} [DecidableEq γ] (v : γ) : List γ → (γ → SpecR) → SpecR
 | [], _ => .no
 | t :: r, k => match decide (v = t) with
  | true => k t
  | false => tabD v r k
theorem tabD_or {γ : Type} [DecidableEq γ] (v : γ) (k : γ → SpecR) : ∀ l, tabD v l k = .no ∨ tabD v l k = k v
 | [] => .inl rfl
 | t :: r => by
  unfold tabD
  cases h : decide (v = t) with
  | true => right; simp only [decide_eq_true_eq] at h; subst h; rfl
  | false => exact tabD_or v k r
theorem law_tab {P : Program} {f : FuncId} {β : Type} {r : Rd β} {sp : β → SpecR} {γ : Type} [DecidableEq γ] (h : Law P f (r.sp sp)) (c : β → Bool) (v : β → γ) (tab : List γ) (k : γ → SpecR)
  (hh : ∀ b, c b = true → match k (v b) with
   | .no => True
   | .data ps' g' => ∃ ps g, sp b = .data ps g ∧ ((∀ p, p ∈ ps' → p) → ∀ p, p ∈ ps → p) ∧ ∀ ds, ∃ ds', g' ds' = g ds
   | .scalar ps' v' => ∃ ps v, sp b = .scalar ps v ∧ ((∀ p, p ∈ ps' → p) → ∀ p, p ∈ ps → p) ∧ v' = v) :
  Law P f (r.sp fun b => iff (c b) (tabD (v b) tab k)) :=
 law_alt h fun b => by
  unfold iff
  cases hc : c b with
  | false => trivial
  | true =>
   simp only
   rcases tabD_or (v b) k tab with h1 | h1
   ·rw [h1]; trivial
   ·rw [h1]; exact hh b hc

def coP (d s : D) (c : Co) : SV := .agg [.int .i64 c.nodes, .int .i64 c.round, .int .i64 c.phase, .int .i64 c.deadline, .dat (pI d c.positions), .dat (pB s c.seen), .bool c.valid]
theorem coP_like (d s : D) (c : Co) : coP (d.like c.positions) (s.like c.seen) c = coSV d s c := by simp only [coP, coSV, pI_like, pB_like]
def mbP (w h : D) (m : Mb) : SV := .agg [.int .i64 m.round, .int .i64 m.position, .int .i64 m.thawed, .int .i64 m.issued, .bool m.frozen, .int .i64 m.upto, .dat (pI w m.waiting), .dat (pI h m.held)]
theorem mbP_like (d s : D) (c : Mb) : mbP (d.like c.waiting) (s.like c.held) c = mbSV d s c := by simp only [mbP, mbSV, pI_like]

def coL (x : CoD) : Bool := x.d.allInt && x.s.allBool
theorem coL_is {x : CoD} (h : coL x = true) : x.d.Is Int ∧ x.s.Is Bool := by
 simp only [coL, Bool.and_eq_true] at h
 exact ⟨allInt_is h.1, allBool_is h.2⟩
def mbL (x : MbD) : Bool := (x.w.allInt && x.h.allInt) && (decide (x.w.len ≤ 1048575) && decide (x.h.len ≤ 1048575))
theorem mbL_is {x : MbD} (h : mbL x = true) : x.Right := by
 simp only [mbL, Bool.and_eq_true, decide_eq_true_eq] at h
 exact ⟨allInt_is h.1.1, allInt_is h.1.2, h.2.1, h.2.2⟩

def zMb : Mb := ⟨0, 0, 0, 0, false, 0, [], []⟩
def spNewCT (n : Int) : SpecR := iff true (tabD (newCo n) [(⟨2, 0, 0, 0, [0, 0], [false, false], false⟩, 0)] fun r => .data [] fun ds => .tup [coP (ds 0) (ds 1) r.1, .int .i64 r.2])
noncomputable def spStartT (x : CoD × Int × Int) : SpecR := iff (coL x.1) (tabD (startCo x.1.co x.2.1 x.2.2) [(⟨2, 1, 1, 10, [0, 0], [false, false], false⟩, [⟨1, 2, 0, 1, 0, 0, [], []⟩, ⟨1, 2, 1, 1, 0, 0, [], []⟩], 0)]
 fun r => .data [] fun ds => .tup [coP (ds 0) (ds 1) r.1, .dat (pM (ds 2) r.2.1), .int .i64 r.2.2])
def spIssueT (x : MbD) : SpecR := iff (mbL x) (tabD (issueMb x.mb) [(⟨0, 0, 0, 1, false, 0, [0], []⟩, 0), (⟨0, 0, 0, 2, false, 0, [0, 1], []⟩, 1), (⟨0, 0, 0, 3, false, 0, [0, 1, 2], []⟩, 2)]
 fun r => .data [] fun ds => .tup [mbP (ds 0) (ds 1) r.1, .int .i64 r.2])
noncomputable def spObeyT (x : MbD × Int × Int × MsgD) : SpecR := iff (mbL x.1) (tabD (obeyMb x.1.mb x.2.1 x.2.2.1 x.2.2.2.msg) [(⟨1, 3, 0, 3, true, 11, [0, 1, 2], []⟩, [], [⟨2, 0, 2, 1, 3, 0, [], []⟩]), (⟨1, 0, 0, 0, true, 11, [], []⟩, [], [⟨2, 1, 2, 1, 0, 0, [], []⟩]),
  (⟨1, 3, 1, 3, false, 11, [0, 1, 2], []⟩, [], [⟨4, 0, 2, 1, 1, 0, [], []⟩]), (⟨1, 0, 1, 0, false, 11, [], []⟩, [], [⟨4, 1, 2, 1, 1, 0, [], []⟩])]
 fun r => .data [] fun ds => .tup [mbP (ds 0) (ds 1) r.1, .dat (pI (ds 2) r.2.1), .dat (pM (ds 3) r.2.2)])
noncomputable def spCollT (x : CoD × Int × MsgD) : SpecR := iff (coL x.1) (tabD (collectCo x.1.co x.2.1 x.2.2.msg) [(⟨2, 1, 1, 10, [3, 0], [true, false], false⟩, []), (⟨2, 1, 2, 10, [3, 0], [false, false], false⟩, [⟨3, 2, 0, 1, 0, 0, [], []⟩, ⟨3, 2, 1, 1, 0, 0, [], []⟩]),
  (⟨2, 1, 2, 10, [3, 0], [true, false], false⟩, []), (⟨2, 1, 0, 10, [3, 0], [true, true], true⟩, [])]
 fun r => .data [] fun ds => .tup [coP (ds 0) (ds 1) r.1, .dat (pM (ds 2) r.2)])
def spResT (x : CoD) : SpecR := iff (coL x) (tabD (resultCo x.co) [([3, 0], true)] fun r => .data [] fun ds => .tup [.dat (pI (ds 0) r.1), .bool r.2])
def intsL (x : D × D) : Bool := (x.1.allInt && x.2.allInt) && decide (x.1.len ≤ 1048576)
theorem intsL_is {x : D × D} (h : intsL x = true) : x.1.Is Int ∧ x.2.Is Int ∧ x.1.len ≤ 1048576 := by
 simp only [intsL, Bool.and_eq_true, decide_eq_true_eq] at h
 exact ⟨allInt_is h.1.1, allInt_is h.1.2, h.2⟩
def spSameIT (x : D × D) : SpecR := iff (intsL x) (tabD (decide (x.1.to Int = x.2.to Int)) [true] fun r => .scalar [] (.bool r))
end Sx

namespace Go.Proofs.Ytoechplbhbalaaa
theorem lawNewT : Law Try.prog 19 (rdInt.one.sp spNewCT) :=
 law_tab (lawNew 19 (.inl rfl)) _ _ _ _ fun b _ => ⟨_, _, rfl, id, fun ds => ⟨fun i => match i with | 0 => (ds 0).like (newCo b).1.positions | _ => (ds 1).like (newCo b).1.seen, by simp only [coP_like]⟩⟩
theorem lawStartT : Law Try.prog 13 ((rdCo.three rdInt rdInt).sp spStartT) :=
 law_tab (lawStart 13 (.inl rfl)) _ _ _ _ fun b h => ⟨_, _, rfl, fun _ p hp => by rw [List.mem_singleton.1 hp]; exact coL_is h,
  fun ds => ⟨fun i => match i with | 0 => (ds 0).like (startCo b.1.co b.2.1 b.2.2).1.positions | 1 => (ds 1).like (startCo b.1.co b.2.1 b.2.2).1.seen | _ => (ds 2).like (startCo b.1.co b.2.1 b.2.2).2.1, by simp only [coP_like, pM_like]⟩⟩
theorem lawIssueT : Law Try.prog 36 (rdMb.one.sp spIssueT) :=
 law_tab lawIssue1 _ _ _ _ fun b h => ⟨_, _, rfl, fun _ p hp => by rw [List.mem_singleton.1 hp]; exact mbL_is h,
  fun ds => ⟨fun i => match i with | 0 => (ds 0).like (issueMb b.mb).1.waiting | _ => (ds 1).like (issueMb b.mb).1.held, by simp only [mbP_like]⟩⟩
theorem lawObeyT : Law Try.prog 24 ((rdMb.four rdInt rdInt rdMsg).sp spObeyT) :=
 law_tab lawObey1 _ _ _ _ fun b h => ⟨_, _, rfl, fun _ p hp => by rw [List.mem_singleton.1 hp]; exact mbL_is h,
  fun ds => ⟨fun i => match i with
   | 0 => (ds 0).like (obeyMb b.1.mb b.2.1 b.2.2.1 b.2.2.2.msg).1.waiting
   | 1 => (ds 1).like (obeyMb b.1.mb b.2.1 b.2.2.1 b.2.2.2.msg).1.held
   | 2 => (ds 2).like (obeyMb b.1.mb b.2.1 b.2.2.1 b.2.2.2.msg).2.1 | _ => (ds 3).like (obeyMb b.1.mb b.2.1 b.2.2.1 b.2.2.2.msg).2.2, by simp only [mbP_like, pI_like, pM_like]⟩⟩
theorem lawCollT : Law Try.prog 27 ((rdCo.three rdInt rdMsg).sp spCollT) :=
 law_tab lawColl1 _ _ _ _ fun b h => ⟨_, _, rfl, fun _ p hp => by rw [List.mem_singleton.1 hp]; exact coL_is h,
  fun ds => ⟨fun i => match i with | 0 => (ds 0).like (collectCo b.1.co b.2.1 b.2.2.msg).1.positions | 1 => (ds 1).like (collectCo b.1.co b.2.1 b.2.2.msg).1.seen | _ => (ds 2).like (collectCo b.1.co b.2.1 b.2.2.msg).2, by simp only [coP_like, pM_like]⟩⟩
theorem lawResT : Law Try.prog 21 (rdCo.one.sp spResT) :=
 law_tab (lawRes 21 (.inl rfl)) _ _ _ _ fun b h => ⟨_, _, rfl, fun _ p hp => by rw [List.mem_singleton.1 hp]; exact coL_is h,
  fun ds => ⟨fun _ => (ds 0).like (resultCo b.co).1, by simp only [pI_like]⟩⟩
theorem lawSameIT : Law Try.prog 23 ((rdD.two rdD).sp spSameIT) :=
 law_tab lawSameInts _ _ _ _ fun b h => ⟨_, _, rfl, fun _ p hp => by
  rw [List.mem_singleton.1 hp]; exact intsL_is h, rfl⟩

noncomputable def ctT : Ctrs := [(13, ctrOf ((rdCo.three rdInt rdInt).sp spStartT)), (19, ctrOf (rdInt.one.sp spNewCT)), (21, ctrOf (rdCo.one.sp spResT)), (23, ctrOf ((rdD.two rdD).sp spSameIT)),
 (24, ctrOf ((rdMb.four rdInt rdInt rdMsg).sp spObeyT)), (27, ctrOf ((rdCo.three rdInt rdMsg).sp spCollT)), (36, ctrOf (rdMb.one.sp spIssueT))]

theorem ctTOk : Ctrs.Ok Try.prog ctT := by
 intro x hx
 simp only [ctT, List.mem_cons, List.not_mem_nil, or_false] at hx
 rcases hx with rfl | rfl | rfl | rfl | rfl | rfl | rfl
 ·exact ctrOf_ok lawStartT
 ·exact ctrOf_ok lawNewT
 ·exact ctrOf_ok lawResT
 ·exact ctrOf_ok lawSameIT
 ·exact ctrOf_ok lawObeyT
 ·exact ctrOf_ok lawCollT
 ·exact ctrOf_ok lawIssueT
end Go.Proofs.Ytoechplbhbalaaa
end
section
open Go Go.Proofs Sx
namespace Go.Proofs.Ytoechplbhbalaaa
set_option maxRecDepth 100000
set_option maxHeartbeats 0
section
theorem awake_in : (execU Try.prog ctT (fun _ => true) 600 (entry Try.prog 12 [])).dec =
 Tree.all fun hs =>
 .all fun hs =>
 .need ((0 : Int) ≤ 0 ∧ 0 < (↑2 : Int))
 (.all fun hs_1 =>
 .need ((0 : Int) ≤ 0 ∧ 0 < (↑2 : Int))
 (.need ((0 : Int) ≤ 0 ∧ 0 < (↑2 : Int))
 (.all fun hs_2 =>
 .need ((0 : Int) ≤ 0 ∧ 0 < (↑2 : Int))
 (.need ((0 : Int) ≤ 0 ∧ 0 < (↑2 : Int))
 (.all fun hs_3 =>
 .need ((0 : Int) ≤ 0 ∧ 0 < (↑2 : Int))
 (.all fun hs_4 =>
 .need ((0 : Int) ≤ 0 ∧ 0 < (↑2 : Int))
 (.need
 ((0 : Int) ≤ 0 ∧
 0 < (↑(D.len (pM (hs 0 2) [Msg.mk 1 2 0 1 0 0 [] [], Msg.mk 1 2 1 1 0 0 [] []])) : Int) ∧
 D.sz (pM (hs 0 2) [Msg.mk 1 2 0 1 0 0 [] [], Msg.mk 1 2 1 1 0 0 [] []]) = 8)
 (.need
 (D.HasCells (pM (hs 0 2) [Msg.mk 1 2 0 1 0 0 [] [], Msg.mk 1 2 1 1 0 0 [] []]) 0 0
 [FT.int .i64, FT.int .i64, FT.int .i64, FT.int .i64,
 FT.int .i64, FT.int .i64, FT.slc, FT.slc])
 (.need ((0 : Int) ≤ 0 ∧ 0 < (↑2 : Int))
 (.all fun hs_5 =>
 .need
 ((0 : Int) ≤ 0 ∧
 0 < (↑(D.len (pM (hs_4 7 3) [Msg.mk 2 0 2 1 3 0 [] []])) : Int) ∧
 D.sz (pM (hs_4 7 3) [Msg.mk 2 0 2 1 3 0 [] []]) = 8)
 (.need
 (D.HasCells (pM (hs_4 7 3) [Msg.mk 2 0 2 1 3 0 [] []]) 0 0
 [FT.int .i64, FT.int .i64, FT.int .i64, FT.int .i64,
 FT.int .i64, FT.int .i64, FT.slc, FT.slc])
 (.need
 (D.Fits (pM (hs_5 4 2) []) 8 ∧
 D.len (pM (hs_5 4 2) []) * 96 ≤ 140737488355328 ∧
 D.len (pM (hs_5 4 2) []) ≤ 9223372036854775807)
 (.all fun hs_6 =>
 .all fun hs_7 =>
 .need
 (0 ≤ IntKind.wrap .i64 (0 + 1) ∧
 IntKind.wrap .i64 (0 + 1) < (↑2 : Int))
 (.need
 (0 ≤ IntKind.wrap .i64 (0 + 1) ∧
 IntKind.wrap .i64 (0 + 1) <
 (↑(D.len
 (pM (hs 0 2)
 [Msg.mk 1 2 0 1 0 0 [] [], Msg.mk 1 2 1 1 0 0 [] []])) :
 Int) ∧
 D.sz
 (pM (hs 0 2)
 [Msg.mk 1 2 0 1 0 0 [] [], Msg.mk 1 2 1 1 0 0 [] []]) =
 8)
 (.need
 (D.HasCells
 (pM (hs 0 2) [Msg.mk 1 2 0 1 0 0 [] [], Msg.mk 1 2 1 1 0 0 [] []]) 1
 0
 [FT.int .i64, FT.int .i64, FT.int .i64,
 FT.int .i64, FT.int .i64, FT.int .i64,
 FT.slc, FT.slc])
 (.need
 (0 ≤ IntKind.wrap .i64 (0 + 1) ∧
 IntKind.wrap .i64 (0 + 1) < (↑2 : Int))
 (.all fun hs =>
 .need
 ((0 : Int) ≤ 0 ∧
 0 <
 (↑(D.len (pM (hs_7 7 3) [Msg.mk 2 1 2 1 0 0 [] []])) :
 Int) ∧
 D.sz (pM (hs_7 7 3) [Msg.mk 2 1 2 1 0 0 [] []]) = 8)
 (.need
 (D.HasCells (pM (hs_7 7 3) [Msg.mk 2 1 2 1 0 0 [] []]) 0 0
 [FT.int .i64, FT.int .i64, FT.int .i64,
 FT.int .i64, FT.int .i64,
 FT.int .i64, FT.slc, FT.slc])
 (.need
 (D.sz
 (D.slc (D.hd (hs_6 0 0)) 8
 (D.rows (pM (hs_5 4 2) []))) =
 8 ∧
 D.Fits
 (pM (hs 4 2)
 [Msg.mk 3 2 0 1 0 0 [] [],
 Msg.mk 3 2 1 1 0 0 [] []])
 8 ∧
 (D.len
 (D.slc (D.hd (hs_6 0 0)) 8
 (D.rows (pM (hs_5 4 2) []))) +
 D.len
 (pM (hs 4 2)
 [Msg.mk 3 2 0 1 0 0 [] [],
 Msg.mk 3 2 1 1 0 0 [] []])) *
 96 ≤
 140737488355328 ∧
 D.len
 (D.slc (D.hd (hs_6 0 0)) 8
 (D.rows (pM (hs_5 4 2) []))) +
 D.len
 (pM (hs 4 2)
 [Msg.mk 3 2 0 1 0 0 [] [],
 Msg.mk 3 2 1 1 0 0 [] []]) ≤
 9223372036854775807)
 (.all fun hs_8 =>
 .all fun hs_9 =>
 .need ((0 : Int) ≤ 0 ∧ 0 < (↑2 : Int))
 (.need
 ((0 : Int) ≤ 0 ∧
 0 <
 (↑(D.len
 (D.slc (D.hd (hs_8 0 0)) 8
 (List.append
 (D.rows
 (D.slc (D.hd (hs_6 0 0)) 8
 (D.rows (pM (hs_5 4 2) []))))
 (D.rows
 (pM (hs 4 2)
 [Msg.mk 3 2 0 1 0 0 [] [],
 Msg.mk 3 2 1 1 0 0 []
 []]))))) :
 Int) ∧
 D.sz
 (D.slc (D.hd (hs_8 0 0)) 8
 (List.append
 (D.rows
 (D.slc (D.hd (hs_6 0 0)) 8
 (D.rows (pM (hs_5 4 2) []))))
 (D.rows
 (pM (hs 4 2)
 [Msg.mk 3 2 0 1 0 0 [] [],
 Msg.mk 3 2 1 1 0 0 [] []])))) =
 8)
 (.need
 (D.HasCells
 (D.slc (D.hd (hs_8 0 0)) 8
 (List.append
 (D.rows
 (D.slc (D.hd (hs_6 0 0)) 8
 (D.rows (pM (hs_5 4 2) []))))
 (D.rows
 (pM (hs 4 2)
 [Msg.mk 3 2 0 1 0 0 [] [],
 Msg.mk 3 2 1 1 0 0 [] []]))))
 0 0
 [FT.int .i64, FT.int .i64,
 FT.int .i64, FT.int .i64,
 FT.int .i64, FT.int .i64,
 FT.slc, FT.slc] ∧
 D.sz
 (D.slc (D.hd (hs_8 0 0)) 8
 (List.append
 (D.rows
 (D.slc (D.hd (hs_6 0 0)) 8
 (D.rows (pM (hs_5 4 2) []))))
 (D.rows
 (pM (hs 4 2)
 [Msg.mk 3 2 0 1 0 0 [] [],
 Msg.mk 3 2 1 1 0 0 [] []])))) =
 8)
 (.need ((0 : Int) ≤ 0 ∧ 0 < (↑2 : Int))
 (.all fun hs_10 =>
 .need
 ((0 : Int) ≤ 0 ∧
 0 <
 (↑(D.len
 (pM (hs_9 7 3)
 [Msg.mk 4 0 2 1 1 0 [] []])) :
 Int) ∧
 D.sz
 (pM (hs_9 7 3)
 [Msg.mk 4 0 2 1 1 0 [] []]) =
 8)
 (.need
 (D.HasCells
 (pM (hs_9 7 3)
 [Msg.mk 4 0 2 1 1 0 [] []])
 0 0
 [FT.int .i64, FT.int .i64,
 FT.int .i64,
 FT.int .i64,
 FT.int .i64,
 FT.int .i64, FT.slc, FT.slc])
 (.need
 (D.Fits (pM (hs_10 4 2) []) 8 ∧
 D.len (pM (hs_10 4 2) []) * 96 ≤
 140737488355328 ∧
 D.len (pM (hs_10 4 2) []) ≤
 9223372036854775807)
 (.all fun hs_11 =>
 .all fun hs_12 =>
 .need
 (0 ≤
 IntKind.wrap .i64
 (0 + 1) ∧
 IntKind.wrap .i64
 (0 + 1) <
 (↑2 : Int))
 (.need
 (0 ≤
 IntKind.wrap .i64
 (0 + 1) ∧
 IntKind.wrap .i64
 (0 + 1) <
 (↑(D.len
 (D.slc
 (D.hd (hs_8 0 0))
 8
 (List.append
 (D.rows
 (D.slc
 (D.hd
 (hs_6 0
 0))
 8
 (D.rows
 (pM
 (hs_5 4
 2)
 []))))
 (D.rows
 (pM (hs 4 2)
 [Msg.mk 3 2
 0 1 0 0
 [] [],
 Msg.mk 3 2
 1 1 0 0
 []
 []]))))) :
 Int) ∧
 D.sz
 (D.slc (D.hd (hs_8 0 0))
 8
 (List.append
 (D.rows
 (D.slc
 (D.hd
 (hs_6 0 0))
 8
 (D.rows
 (pM (hs_5 4 2)
 []))))
 (D.rows
 (pM (hs 4 2)
 [Msg.mk 3 2 0 1
 0 0 [] [],
 Msg.mk 3 2 1 1
 0 0 []
 []])))) =
 8)
 (.need
 (D.HasCells
 (D.slc (D.hd (hs_8 0 0)) 8
 (List.append
 (D.rows
 (D.slc
 (D.hd (hs_6 0 0))
 8
 (D.rows
 (pM (hs_5 4 2)
 []))))
 (D.rows
 (pM (hs 4 2)
 [Msg.mk 3 2 0 1 0
 0 [] [],
 Msg.mk 3 2 1 1 0
 0 [] []]))))
 1 0
 [FT.int .i64,
 FT.int .i64,
 FT.int .i64,
 FT.int .i64,
 FT.int .i64,
 FT.int .i64,
 FT.slc, FT.slc] ∧
 D.sz
 (D.slc (D.hd (hs_8 0 0))
 8
 (List.append
 (D.rows
 (D.slc
 (D.hd
 (hs_6 0 0))
 8
 (D.rows
 (pM (hs_5 4 2)
 []))))
 (D.rows
 (pM (hs 4 2)
 [Msg.mk 3 2 0 1
 0 0 [] [],
 Msg.mk 3 2 1 1
 0 0 []
 []])))) =
 8)
 (.need
 (0 ≤
 IntKind.wrap .i64
 (0 + 1) ∧
 IntKind.wrap .i64
 (0 + 1) <
 (↑2 : Int))
 (.all fun hs =>
 .need
 ((0 : Int) ≤ 0 ∧
 0 <
 (↑(D.len
 (pM
 (hs_12 7
 3)
 [Msg.mk 4
 1 2 1
 1 0 []
 []])) :
 Int) ∧
 D.sz
 (pM (hs_12 7 3)
 [Msg.mk 4 1 2
 1 1 0 []
 []]) =
 8)
 (.need
 (D.HasCells
 (pM (hs_12 7 3)
 [Msg.mk 4 1 2 1 1
 0 [] []])
 0 0
 [FT.int .i64,
 FT.int
 .i64,
 FT.int
 .i64,
 FT.int
 .i64,
 FT.int
 .i64,
 FT.int
 .i64,
 FT.slc, FT.slc])
 (.need
 (D.sz
 (D.slc
 (D.hd
 (hs_11 0
 0))
 8
 (D.rows
 (pM
 (hs_10 4
 2)
 []))) =
 8 ∧
 D.Fits
 (pM (hs 4 2)
 [])
 8 ∧
 (D.len
 (D.slc
 (D.hd
 (hs_11
 0
 0))
 8
 (D.rows
 (pM
 (hs_10
 4
 2)
 []))) +
 D.len
 (pM
 (hs
 4
 2)
 [])) *
 96 ≤
 140737488355328 ∧
 D.len
 (D.slc
 (D.hd
 (hs_11
 0
 0))
 8
 (D.rows
 (pM
 (hs_10
 4
 2)
 []))) +
 D.len
 (pM
 (hs 4
 2)
 []) ≤
 9223372036854775807)
 (.all
 fun hs_13 =>
 .all
 fun hs_14 =>
 .all
 fun hs_15 =>
 .ret
 (.bool
 (decide
 ((↑(D.len
 (D.slc
 (D.hd
 (hs_13
 0
 0))
 8
 (List.append
 (D.rows
 (D.slc
 (D.hd
 (hs_11
 0
 0))
 8
 (D.rows
 (pM
 (hs_10
 4
 2)
 []))))
 (D.rows
 (pM
 (hs
 4
 2)
 []))))) :
 Int) =
 0))))))))))))))))))))))))))))))))))))) := by kernel_rfl

end
end Go.Proofs.Ytoechplbhbalaaa
end
section
open Go Go.Proofs Sx
namespace Sx
def rdNone : Rd Unit where
 read l := match l with | [] => some () | _ => none
 canon _ := []
 right H E args b h hok := by
  split at h
  ·exact ⟨rfl, trivial⟩
  ·cases h
def spTrue (_ : Unit) : SpecR := .scalar [] (.lb true)
theorem need_len {d : D} {n s : Nat} (i : Int) (h : d.len = n) (h' : d.sz = s) (h0 : 0 ≤ i) (hi : i < n) : 0 ≤ i ∧ i < (d.len : Int) ∧ d.sz = s := ⟨h0, by rw [h]; exact hi, h'⟩
end Sx
namespace Go.Proofs.Ytoechplbhbalaaa
set_option maxRecDepth 100000
set_option maxHeartbeats 0
theorem lawAwake : Law Try.prog 12 (rdNone.sp spTrue) := by
 refine law_in _ (by kernel_rfl) fun H w _ hok hp => ?_
 refine dec_sound ctTOk (fun _ => true) 600 (entry Try.prog 12 []) awake_in ?_
 repeat' first
  | with_reducible refine holds_all.2 fun _ => ?_
  | refine ⟨⟨by decide, by decide⟩, ?_⟩
  | refine ⟨need_len (n := 1) 0 rfl rfl (by decide) (by decide), ?_⟩
  | refine ⟨need_len (n := 2) 0 rfl rfl (by decide) (by decide), ?_⟩
  | refine ⟨need_len (n := 2) (IntKind.wrap .i64 (0 + 1)) rfl rfl (by decide) (by decide), ?_⟩
  | refine ⟨⟨⟨_, rfl⟩, ⟨_, rfl⟩, ⟨_, rfl⟩, ⟨_, rfl⟩, ⟨_, rfl⟩, ⟨_, rfl⟩, ⟨_, _, _, rfl⟩, ⟨_, _, _, rfl⟩, trivial⟩, ?_⟩
  | refine ⟨⟨⟨⟨_, rfl⟩, ⟨_, rfl⟩, ⟨_, rfl⟩, ⟨_, rfl⟩, ⟨_, rfl⟩, ⟨_, rfl⟩, ⟨_, _, _, rfl⟩, ⟨_, _, _, rfl⟩, trivial⟩, rfl⟩, ?_⟩
  | refine ⟨⟨.inl rfl, (by decide : 0 * 96 ≤ 140737488355328), (by decide : 0 ≤ 9223372036854775807)⟩, ?_⟩
  | refine ⟨⟨rfl, .inr rfl, (by decide : (0 + 2) * 96 ≤ 140737488355328), (by decide : 0 + 2 ≤ 9223372036854775807)⟩, ?_⟩
  | refine ⟨⟨rfl, .inl rfl, (by decide : (0 + 0) * 96 ≤ 140737488355328), (by decide : 0 + 0 ≤ 9223372036854775807)⟩, ?_⟩
  | fail
 exact ret_S fun E E' => by simp only [SV.den]; rfl
end Go.Proofs.Ytoechplbhbalaaa
end
section
open Go Go.Proofs Sx
namespace Sx
theorem law_sure {P : Program} {f : FuncId} {β : Type} {r : Rd β} {sp sp' : β → SpecR} (h : Law P f (r.sp sp))
  (hh : ∀ b, ∃ ps v ps', sp b = .scalar ps (.bool v) ∧ sp' b = .scalar ps' (.lb true) ∧ ((∀ p, p ∈ ps' → p) → (∀ p, p ∈ ps → p) ∧ v = true)) : Law P f (r.sp sp') := by
 refine ⟨h.1, fun H E args hargs => ?_⟩
 have h2 := h.2 H E args hargs
 unfold Rd.sp at h2 ⊢
 cases hr : r.read args with
 | none => trivial
 | some b =>
  obtain ⟨ps, v, ps', e1, e2, h3⟩ := hh b
  rw [hr] at h2
  simp only [e1] at h2
  simp only [e2]
  intro hp
  obtain ⟨h4, rfl⟩ := h3 hp
  have h5 := h2 h4
  simpa [SV.den] using h5

theorem ret_sure {P : Program} {w : World} {H : HV} {b : Bool} (h : b = true) : (Tree.ret (.bool b)).holds P ⟨w, H⟩ (RetS w H (.lb true)) := by
 subst h; exact ret_S fun _ _ => by simp [SV.den]
theorem ret_lbt {P : Program} {w : World} {H : HV} : (Tree.ret (.lb true)).holds P ⟨w, H⟩ (RetS w H (.lb true)) := ret_S fun _ _ => rfl

def spSameCoS (x : CoD × CoD) : SpecR := .scalar [x.1.d.Is Int ∧ x.1.s.Is Bool ∧ x.2.d.Is Int ∧ x.2.s.Is Bool ∧ x.1.d.len ≤ 1048576 ∧ x.1.s.len ≤ 1048576 ∧ x.1.co = x.2.co] (.lb true)
def spSameMbS (x : MbD × MbD) : SpecR := .scalar [x.1.Right ∧ x.2.Right ∧ x.1.mb = x.2.mb] (.lb true)
def spSameIntsS (x : D × D) : SpecR := .scalar [x.1.Is Int ∧ x.2.Is Int ∧ x.1.len ≤ 1048576 ∧ x.1.to Int = x.2.to Int] (.lb true)
noncomputable def spSameMsgsS (x : D × D) : SpecR := .scalar [x.1.Is Msg ∧ x.2.Is Msg ∧ x.1.len ≤ 1048576 ∧ (∀ m, m ∈ x.1.to Msg → m.values = [] ∧ m.body = []) ∧ x.1.to Msg = x.2.to Msg] (.lb true)
end Sx
namespace Go.Proofs.Ytoechplbhbalaaa
theorem lawSameCoS : Law Try.prog 15 ((rdCo.two rdCo).sp spSameCoS) :=
 law_sure lawSameCo fun b => ⟨_, _, _, rfl, rfl, fun hp => by
  obtain ⟨h1, h2, h3, h4, h5, h6, h7⟩ := hp _ (List.mem_singleton.2 rfl)
  exact ⟨fun p hp' => by rw [List.mem_singleton.1 hp']; exact ⟨h1, h2, h3, h4, h5, h6⟩, decide_eq_true h7⟩⟩
theorem lawSameMbS : Law Try.prog 26 ((rdMb.two rdMb).sp spSameMbS) :=
 law_sure lawSameMb fun b => ⟨_, _, _, rfl, rfl, fun hp => by
  obtain ⟨h1, h2, h3⟩ := hp _ (List.mem_singleton.2 rfl)
  exact ⟨fun p hp' => by rw [List.mem_singleton.1 hp']; exact ⟨h1, h2⟩, decide_eq_true h3⟩⟩
theorem lawSameIntsS : Law Try.prog 23 ((rdD.two rdD).sp spSameIntsS) :=
 law_sure lawSameInts fun b => ⟨_, _, _, rfl, rfl, fun hp => by
  obtain ⟨h1, h2, h3, h4⟩ := hp _ (List.mem_singleton.2 rfl)
  exact ⟨fun p hp' => by rw [List.mem_singleton.1 hp']; exact ⟨h1, h2, h3⟩, decide_eq_true h4⟩⟩
theorem lawSameMsgsS : Law Try.prog 16 ((rdD.two rdD).sp spSameMsgsS) :=
 law_sure lawSameMsgs fun b => ⟨_, _, _, rfl, rfl, fun hp => by
  obtain ⟨h1, h2, h3, h4, h5⟩ := hp _ (List.mem_singleton.2 rfl)
  exact ⟨fun p hp' => by rw [List.mem_singleton.1 hp']; exact ⟨h1, h2, h3, fun m hm => ⟨(h4 m hm).2, (h4 m hm).1⟩, fun m hm => (h4 m (by rw [h5]; exact hm)).2⟩, decide_eq_true h5⟩⟩

noncomputable def ctL : Ctrs := (12, ctrOf (rdNone.sp spTrue)) :: (15, ctrOf ((rdCo.two rdCo).sp spSameCoS)) :: (16, ctrOf ((rdD.two rdD).sp spSameMsgsS)) :: (23, ctrOf ((rdD.two rdD).sp spSameIntsS)) :: (26, ctrOf ((rdMb.two rdMb).sp spSameMbS)) ::
 (13, ctrOf ((rdCo.three rdInt rdInt).sp spStart)) :: (14, ctrOf ((rdCo.three rdInt rdInt).sp spStart)) :: (21, ctrOf (rdCo.one.sp spRes)) :: (22, ctrOf (rdCo.one.sp spRes)) ::
 (24, ctrOf ((rdMb.four rdInt rdInt rdMsg).sp spObey)) :: (25, ctrOf ((rdMb.four rdInt rdInt rdMsg).sp spObey)) :: (27, ctrOf ((rdCo.three rdInt rdMsg).sp spColl)) :: (28, ctrOf ((rdCo.three rdInt rdMsg).sp spColl)) ::
 (29, ctrOf ((rdCo.two rdInt).sp spExp)) :: (30, ctrOf ((rdCo.two rdInt).sp spExp)) :: (36, ctrOf (rdMb.one.sp spIssue)) :: (37, ctrOf (rdMb.one.sp spIssue)) :: ctM

theorem ctLOk : Ctrs.Ok Try.prog ctL := by
 intro x hx
 simp only [ctL, List.mem_cons] at hx
 rcases hx with rfl | rfl | rfl | rfl | rfl | rfl | rfl | rfl | rfl | rfl | rfl | rfl | rfl | rfl | rfl | rfl | rfl | hx
 ·exact ctrOf_ok lawAwake
 ·exact ctrOf_ok lawSameCoS
 ·exact ctrOf_ok lawSameMsgsS
 ·exact ctrOf_ok lawSameIntsS
 ·exact ctrOf_ok lawSameMbS
 ·exact ctrOf_ok (lawStart 13 (.inl rfl))
 ·exact ctrOf_ok (lawStart 14 (.inr rfl))
 ·exact ctrOf_ok (lawRes 21 (.inl rfl))
 ·exact ctrOf_ok (lawRes 22 (.inr rfl))
 ·exact ctrOf_ok lawObey1
 ·exact ctrOf_ok lawObey2
 ·exact ctrOf_ok lawColl1
 ·exact ctrOf_ok lawColl2
 ·exact ctrOf_ok lawExp1
 ·exact ctrOf_ok lawExp2
 ·exact ctrOf_ok lawIssue1
 ·exact ctrOf_ok lawIssue2
 ·exact ctMOk _ hx
end Go.Proofs.Ytoechplbhbalaaa
end
section
open Go Go.Proofs Sx
namespace Go.Proofs.Ytoechplbhbalaaa
set_option maxRecDepth 100000
set_option maxHeartbeats 0
section
variable (now patience : Int) (d s wt hd : D) (frozen : Bool) (mr mp mt mi mu : Int) (mk mf mto mn mv me : Int) (ml mb : D) (nodes round phase deadline : Int) (valid : Bool)



end
end Go.Proofs.Ytoechplbhbalaaa
end
section
open Go Go.Proofs Sx
namespace Sx
theorem like_len {α : Type} [Codec α] (d : D) (l : List α) : (d.like l).len = l.length := by rw [D.Is.length (α := α), D.like_to]
theorem right_like (a b c e g : Int) (x y : D) (p q : List Int) (v : Bool) : (MbD.mk a b c e v g (x.like p) (y.like q)).Right ↔ p.length ≤ 1048575 ∧ q.length ≤ 1048575 := by
 simp [MbD.Right, D.like_is, like_len]
def rdCall : Rd1 (MsgD × Int × Int) where
 read x := match x with
  | .agg [.int .i64 a, .int .i64 b, .int .i64 c, .int .i64 d, .int .i64 e, .int .i64 f, v, w, .int .i64 n, .int .i64 p] => match rdD.read v, rdD.read w with
   | some v, some w => some (⟨a, b, c, d, e, f, v, w⟩, n, p)
   | _, _ => none
  | _ => none
 canon x := .agg [.int .i64 x.1.a, .int .i64 x.1.b, .int .i64 x.1.c, .int .i64 x.1.d, .int .i64 x.1.e, .int .i64 x.1.f, .dat x.1.v, .dat x.1.w, .int .i64 x.2.1, .int .i64 x.2.2]
 right H E x b h hok := by
  split at h
  ·split at h
   ·rename_i hv hw
    cases h
    obtain ⟨h1, h2⟩ := rdD.right H E _ _ hv hok.2.2.2.2.2.2.1
    obtain ⟨h3, h4⟩ := rdD.right H E _ _ hw hok.2.2.2.2.2.2.2.1
    exact ⟨by simp only [SV.den, SV.denL, h1, h3, rdD], trivial, trivial, trivial, trivial, trivial, trivial, h2, h4, trivial, trivial, trivial⟩
   ·cases h
  ·cases h

def Plain2 (l : List Msg) : Prop := ∀ m : Msg, List.Mem m l → m.values = [] ∧ m.body = []
theorem msgsTo_pl (n r k : Int) : Plain2 (msgsTo n r k) := fun m hm => by
 have hm : m ∈ msgsTo n r k := hm
 simp only [msgsTo, List.mem_map] at hm
 obtain ⟨i, _, rfl⟩ := hm
 exact ⟨rfl, rfl⟩
theorem nil_pl : Plain2 [] := fun m hm => by cases hm
theorem msgsTo_length (n r k : Int) : (msgsTo n r k).length = n.toNat := by simp [msgsTo]
theorem ansTo_pl (m : Msg) (k v : Int) : Plain2 (ansTo m k v) := fun x hm => by
 have hm : x ∈ ansTo m k v := hm
 simp only [ansTo, List.mem_singleton] at hm
 subst hm
 exact ⟨rfl, rfl⟩

theorem checkCo_nodes {c : Co} (h : checkCo c = 0) : 1 ≤ c.nodes ∧ c.nodes ≤ 8 := (checkCo_zero.1 (show checkCo ⟨c.nodes, c.round, c.phase, c.deadline, c.positions, c.seen, c.valid⟩ = 0 from h)).1

theorem startCo_len (c : Co) (a b : Int) : (startCo c a b).1.positions.length ≤ 8 ∧ (startCo c a b).1.seen.length ≤ 8 ∧ (startCo c a b).2.1.length ≤ 8 ∧ Plain2 (startCo c a b).2.1 := by
 rcases checkCo_or c with h | h
 ·rw [show c = ⟨c.nodes, c.round, c.phase, c.deadline, c.positions, c.seen, c.valid⟩ from rfl] at h ⊢
  have hn : 1 ≤ c.nodes ∧ c.nodes ≤ 8 := checkCo_nodes h
  rw [startCo_eq h]
  split
  ·simp [zCo, nil_pl]
  ·split
   ·simp [zCo, nil_pl]
   ·split
    ·simp [zCo, nil_pl]
    ·simp only [List.length_replicate, msgsTo_length]
     exact ⟨by omega, by omega, by omega, msgsTo_pl _ _ _⟩
 ·unfold startCo
  rw [if_pos (by rw [h]; decide)]
  simp [zCo, nil_pl]
theorem endMb_len (m : Mb) (now : Int) (g : Msg) : (endMb m now g).1.waiting.length ≤ m.waiting.length ∧ (endMb m now g).1.held.length ≤ m.held.length ∧ (endMb m now g).2.1.length ≤ m.held.length ∧ (endMb m now g).2.2.length ≤ 1 ∧ Plain2 (endMb m now g).2.2 := by
 unfold endMb
 split
 ·simp [ansTo]; exact ansTo_pl _ _ _
 ·split
  ·simp [ansTo]; exact ansTo_pl _ _ _
  ·simp [ansTo]; exact ansTo_pl _ _ _
theorem obeyMb_len (m : Mb) (now p : Int) (g : Msg) : (obeyMb m now p g).1.waiting.length ≤ m.waiting.length ∧ (obeyMb m now p g).1.held.length ≤ m.held.length ∧ (obeyMb m now p g).2.1.length ≤ m.held.length ∧ (obeyMb m now p g).2.2.length ≤ 1 ∧ Plain2 (obeyMb m now p g).2.2 := by
 unfold obeyMb
 repeat' split
 all_goals first
  | exact endMb_len _ _ _
  | exact ⟨Nat.le_refl _, Nat.le_refl _, Nat.zero_le _, Nat.le_refl _, ansTo_pl _ _ _⟩
  | exact ⟨Nat.le_refl _, Nat.le_refl _, Nat.zero_le _, Nat.zero_le _, nil_pl⟩
  | exact ⟨Nat.le_refl _, Nat.zero_le _, Nat.le_refl _, Nat.zero_le _, nil_pl⟩
theorem collectCo_len (c : Co) (now : Int) (g : Msg) : (collectCo c now g).1.positions.length ≤ c.positions.length ∧ (collectCo c now g).1.seen.length ≤ c.seen.length + 8 ∧ (collectCo c now g).2.length ≤ 8 ∧ Plain2 (collectCo c now g).2 := by
 unfold collectCo
 split
 ·simp [nil_pl]
 ·rename_i h
  simp only [not_or, ne_eq, Decidable.not_not] at h
  have hn := checkCo_nodes h.1
  repeat' split
  all_goals (simp [nil_pl, giveUpCo, msgsTo_length, msgsTo_pl]; try omega)
theorem expireCo_len (c : Co) (now : Int) : (expireCo c now).1.positions.length ≤ c.positions.length ∧ (expireCo c now).1.seen.length ≤ c.seen.length ∧ (expireCo c now).2.length ≤ 8 ∧ Plain2 (expireCo c now).2 := by
 unfold expireCo
 split
 ·simp [nil_pl]
 ·rename_i h
  simp only [not_or, ne_eq, Decidable.not_not] at h
  have hn := checkCo_nodes h.1
  simp [giveUpCo, msgsTo_length, msgsTo_pl]; omega
end Sx
namespace Go.Proofs.Ytoechplbhbalaaa
set_option maxRecDepth 100000
set_option maxHeartbeats 0
def spB1 (x : CoD × Int × Int) : SpecR := .scalar [x.1.d.Is Int ∧ x.1.s.Is Bool] (.lb true)
def spB3 (x : CoD × Int × MsgD) : SpecR := .scalar [x.1.d.Is Int ∧ x.1.s.Is Bool] (.lb true)

def spB2 (x : MbD × MsgD × Int × Int) : SpecR := .scalar [x.1.w.Is Int ∧ x.1.h.Is Int] (.lb true)



end Go.Proofs.Ytoechplbhbalaaa
end
section
open Go Go.Proofs Sx
namespace Go.Proofs.Ytoechplbhbalaaa
set_option maxRecDepth 100000
set_option maxHeartbeats 0
section
variable (n j now write : Int) (a b d s wt hd : D) (frozen : Bool) (mr mp mt mi mu : Int)
theorem rel1_in : exec Try.prog ctD 600 (entry Try.prog 42 [.agg [.int .i64 mr, .int .i64 mp, .int .i64 mt, .int .i64 mi, .bool frozen, .int .i64 mu, .dat wt, .dat hd], .int .i64 now]) =
 Tree.need (MbD.Right (MbD.mk mr mp mt mi frozen mu wt hd))
 (.br (checkMb (MbD.mb (MbD.mk mr mp mt mi frozen mu wt hd)) != 0)
 (.ret
 (SV.tup
 [.agg
 [.int .i64 mr, .int .i64 mp, .int .i64 mt, .int .i64 mi, .bool frozen,
 .int .i64 mu, .dat wt, .dat hd],
 .nils]))
 (.br (!frozen)
 (.ret
 (SV.tup
 [.agg
 [.int .i64 mr, .int .i64 mp, .int .i64 mt, .int .i64 mi,
 .bool frozen, .int .i64 mu, .dat wt, .dat hd],
 .nils]))
 (.br (decide (mu > now))
 (.ret
 (SV.tup
 [.agg
 [.int .i64 mr, .int .i64 mp, .int .i64 mt, .int .i64 mi,
 .bool frozen, .int .i64 mu, .dat wt, .dat hd],
 .nils]))
 (.need (D.Is Int hd ∧ D.len hd ≤ 1048576)
 (.all fun hs =>
 .all fun hs_1 =>
 .ret
 (SV.tup
 [.agg
 [.int .i64 mr, .int .i64 mp, .int .i64 mt, .int .i64 mi,
 .lb false, .int .i64 mu, .dat wt, .nils],
 .dat (D.slc (D.hd (hs 0 0)) 1 (D.rows hd))])))))) := by kernel_rfl

theorem rel2_in : exec Try.prog ctD 600 (entry Try.prog 43 [.agg [.int .i64 mr, .int .i64 mp, .int .i64 mt, .int .i64 mi, .bool frozen, .int .i64 mu, .dat wt, .dat hd], .int .i64 now]) =
 Tree.need (MbD.Right (MbD.mk mr mp mt mi frozen mu wt hd))
 (.br (checkMb (MbD.mb (MbD.mk mr mp mt mi frozen mu wt hd)) != 0)
 (.ret
 (SV.tup
 [.agg
 [.int .i64 mr, .int .i64 mp, .int .i64 mt, .int .i64 mi, .bool frozen,
 .int .i64 mu, .dat wt, .dat hd],
 .nils]))
 (.br (!frozen)
 (.ret
 (SV.tup
 [.agg
 [.int .i64 mr, .int .i64 mp, .int .i64 mt, .int .i64 mi,
 .bool frozen, .int .i64 mu, .dat wt, .dat hd],
 .nils]))
 (.br (decide (mu > now))
 (.ret
 (SV.tup
 [.agg
 [.int .i64 mr, .int .i64 mp, .int .i64 mt, .int .i64 mi,
 .bool frozen, .int .i64 mu, .dat wt, .dat hd],
 .nils]))
 (.need (MbD.Right (MbD.mk mr mp mt mi frozen mu wt hd))
 (.all fun hs =>
 .ret
 (SV.tup
 [.agg
 [.int .i64 mr, .int .i64 mp, .int .i64 mt, .int .i64 mi,
 .bool false, .int .i64 mu, .dat (D.like (hs 0 0) (D.to Int wt)),
 .dat (D.like (hs 0 1) ([] : List Int))],
 .dat (D.like (hs 0 2) (D.to Int hd))])))))) := by kernel_rfl

theorem dur1_in : exec Try.prog ctD 600 (entry Try.prog 40 [.agg [.int .i64 mr, .int .i64 mp, .int .i64 mt, .int .i64 mi, .bool frozen, .int .i64 mu, .dat wt, .dat hd], .int .i64 write]) =
 Tree.need (MbD.Right (MbD.mk mr mp mt mi frozen mu wt hd))
 (.br (checkMb (MbD.mb (MbD.mk mr mp mt mi frozen mu wt hd)) != 0)
 (.ret
 (SV.tup
 [.agg
 [.int .i64 0, .int .i64 0, .int .i64 0, .int .i64 0, .lb false,
 .int .i64 0, .nils, .nils],
 .nils, .int .i64 (checkMb (MbD.mb (MbD.mk mr mp mt mi frozen mu wt hd)))]))
 (.need (D.Is Int wt ∧ D.len wt ≤ 1048576)
 (.br (decide ((idxP (D.to Int wt) fun y => decide (write = y)) < 0))
 (.ret
 (SV.tup
 [.agg
 [.int .i64 0, .int .i64 0, .int .i64 0, .int .i64 0, .lb false,
 .int .i64 0, .nils, .nils],
 .nils, .int .i64 7]))
 (.need (D.Is Int wt ∧ D.len wt ≤ 1048576)
 (.all fun hs =>
 .need
 (D.Is Int (D.slc (D.hd (hs 0 0)) 1 (D.rows wt)) ∧
 (0 ≤ idxP (D.to Int wt) fun y => decide (write = y)) ∧
 (idxP (D.to Int wt) fun y => decide (write = y)) <
 IntKind.wrap .i64 ((idxP (D.to Int wt) fun y => decide (write = y)) + 1) ∧
 IntKind.wrap .i64 ((idxP (D.to Int wt) fun y => decide (write = y)) + 1) ≤
 (↑(D.len (D.slc (D.hd (hs 0 0)) 1 (D.rows wt))) : Int))
 (.all fun hs_1 =>
 .br (!frozen)
 (.all fun hs_2 =>
 .ret
 (SV.tup
 [.agg
 [.int .i64 mr, .int .i64 mp, .int .i64 mt, .int .i64 mi,
 .bool frozen, .int .i64 mu,
 .dat
 (D.slc (D.hd (D.slc (D.hd (hs 0 0)) 1 (D.rows wt)))
 (D.sz (D.slc (D.hd (hs 0 0)) 1 (D.rows wt)))
 (List.append
 (List.take (Int.toNat (idxP (D.to Int wt) fun y => decide (write = y)))
 (D.rows (D.slc (D.hd (hs 0 0)) 1 (D.rows wt))))
 (List.drop
 (Int.toNat
 (IntKind.wrap .i64
 ((idxP (D.to Int wt) fun y => decide (write = y)) + 1)))
 (D.rows (D.slc (D.hd (hs 0 0)) 1 (D.rows wt)))))),
 .dat hd],
 .dat (D.slc (D.hd (hs_2 0 0)) 1 [[D.int .i64 write]]), .int .i64 0]))
 (.need (D.Is Int hd ∧ D.len hd ≤ 1048576)
 (.all fun hs_2 =>
 .all fun hs_3 =>
 .need
 (D.sz (D.slc (D.hd (hs_2 0 0)) 1 (D.rows hd)) = 1 ∧
 D.Fits (D.slc (D.hd (hs_3 0 0)) 1 [[D.int .i64 write]]) 1 ∧
 (D.len (D.slc (D.hd (hs_2 0 0)) 1 (D.rows hd)) +
 D.len (D.slc (D.hd (hs_3 0 0)) 1 [[D.int .i64 write]])) *
 8 ≤
 140737488355328 ∧
 D.len (D.slc (D.hd (hs_2 0 0)) 1 (D.rows hd)) +
 D.len (D.slc (D.hd (hs_3 0 0)) 1 [[D.int .i64 write]]) ≤
 9223372036854775807)
 (.all fun hs_4 =>
 .ret
 (SV.tup
 [.agg
 [.int .i64 mr, .int .i64 mp, .int .i64 mt,
 .int .i64 mi, .bool frozen, .int .i64 mu,
 .dat
 (D.slc (D.hd (D.slc (D.hd (hs 0 0)) 1 (D.rows wt)))
 (D.sz (D.slc (D.hd (hs 0 0)) 1 (D.rows wt)))
 (List.append
 (List.take (Int.toNat (idxP (D.to Int wt) fun y => decide (write = y)))
 (D.rows (D.slc (D.hd (hs 0 0)) 1 (D.rows wt))))
 (List.drop
 (Int.toNat
 (IntKind.wrap .i64
 ((idxP (D.to Int wt) fun y => decide (write = y)) + 1)))
 (D.rows (D.slc (D.hd (hs 0 0)) 1 (D.rows wt)))))),
 .dat
 (D.slc (D.hd (hs_4 0 0)) 1
 (List.append (D.rows (D.slc (D.hd (hs_2 0 0)) 1 (D.rows hd)))
 (D.rows (D.slc (D.hd (hs_3 0 0)) 1 [[D.int .i64 write]]))))],
 .nils, .int .i64 0])))))))))) := by kernel_rfl

theorem dur2_in : exec Try.prog ctD 600 (entry Try.prog 41 [.agg [.int .i64 mr, .int .i64 mp, .int .i64 mt, .int .i64 mi, .bool frozen, .int .i64 mu, .dat wt, .dat hd], .int .i64 write]) =
 Tree.need (MbD.Right (MbD.mk mr mp mt mi frozen mu wt hd))
 (.br (checkMb (MbD.mb (MbD.mk mr mp mt mi frozen mu wt hd)) != 0)
 (.ret
 (SV.tup
 [.agg
 [.int .i64 0, .int .i64 0, .int .i64 0, .int .i64 0, .lb false,
 .int .i64 0, .nils, .nils],
 .nils, .int .i64 3]))
 (.need (D.Is Int wt ∧ D.len wt ≤ 1048576)
 (.br (!List.contains (D.to Int wt) write)
 (.ret
 (SV.tup
 [.agg
 [.int .i64 0, .int .i64 0, .int .i64 0, .int .i64 0, .lb false,
 .int .i64 0, .nils, .nils],
 .nils, .int .i64 7]))
 (.leaf
 (Conf.mk
 (SFrm.mk 41 none none
 [Item.inLoop (cAt Try.prog 41 [1, 1, 1, 1, 0, 1, 0, 0]), Item.inBlock 0,
 Item.code (cAt Try.prog 41 [1, 1, 1, 1, 1])]
 (mkJ 0
 [(1, .int .i64 write), (2, .ptr 0 0), (4, .ptr 1 0), (7, .nils),
 (8, .int .i64 0)]
 0 57))
 []
 [(0,
 OBlk.cells 28
 [.int .i64 mr, .int .i64 mp, .int .i64 mt, .int .i64 mi,
 .bool frozen, .int .i64 mu, .dat wt, .dat hd]),
 (1,
 OBlk.cells 28
 [.int .i64 0, .int .i64 0, .int .i64 0, .int .i64 0, .lb false,
 .int .i64 0, .nils, .nils])]))))) := by kernel_rfl

end
end Go.Proofs.Ytoechplbhbalaaa
end
section
open Go Go.Proofs Sx
namespace Go.Proofs.Ytoechplbhbalaaa
set_option maxRecDepth 100000
set_option maxHeartbeats 0
noncomputable def durL (mr mp mt mi mu : Int) (frozen : Bool) (wt hd : D) (write : Int) (out : D) (j : Int) : Conf :=
 Conf.mk (SFrm.mk 41 none none [Item.inLoop (cAt Try.prog 41 [1, 1, 1, 1, 0, 1, 0, 0]), Item.inBlock 0, Item.code (cAt Try.prog 41 [1, 1, 1, 1, 1])]
 (mkJ 0 [(1, .int .i64 write), (2, .ptr 0 0), (4, .ptr 1 0), (7, .vec 2), (8, .int .i64 j)] 0 57)) []
 [(0, OBlk.cells 28 [.int .i64 mr, .int .i64 mp, .int .i64 mt, .int .i64 mi, .bool frozen, .int .i64 mu, .dat wt, .dat hd]),
 (1, OBlk.cells 28 [.int .i64 0, .int .i64 0, .int .i64 0, .int .i64 0, .lb false, .int .i64 0, .nils, .nils]), (2, OBlk.arr 3 out)]
section
variable (n j now write : Int) (a b d s wt hd out : D) (frozen : Bool) (mr mp mt mi mu : Int)
theorem durl_go : 
 let z1 := (SFrm.mk 41 none none [Item.inLoop (cAt Try.prog 41 [1, 1, 1, 1, 0, 1, 0, 0]), Item.inBlock 0, Item.code (cAt Try.prog 41 [1, 1, 1, 1, 1])] (mkJ 0 [(1, .int .i64 write), (2, .ptr 0 0), (4, .ptr 1 0), (7, .vec 2), (8, .int .i64 (IntKind.wrap .i64 (j + 1)))] 0 57))
 exec Try.prog ctD 600 (unroll (durL mr mp mt mi mu frozen wt hd write out j)) =
 Tree.br (decide (j < (↑(D.len wt) : Int))) (.need (0 ≤ j ∧ j < (↑(D.len wt) : Int) ∧ D.sz wt = 1) (.need (D.HasCell wt (Int.toNat j) 0 (FT.int .i64)) (.br (D.getInt wt (Int.toNat j) 0 != write) (.need
 (0 ≤ j ∧ j < (↑(D.len wt) : Int) ∧ D.sz wt = 1) (.need (D.HasCell wt (Int.toNat j) 0 (FT.int .i64)) (.all fun hs => .need (D.sz out = 1 ∧ D.Fits (D.slc (D.hd (hs 0 0)) 1 [[D.int .i64 (D.getInt wt (Int.toNat j) 0)]]) 1 ∧
 (D.len out + D.len (D.slc (D.hd (hs 0 0)) 1 [[D.int .i64 (D.getInt wt (Int.toNat j) 0)]])) * 8 ≤ 140737488355328 ∧ D.len out + D.len (D.slc (D.hd (hs 0 0)) 1 [[D.int .i64 (D.getInt wt (Int.toNat j) 0)]]) ≤ 9223372036854775807)
 (.all fun hs_1 => .leaf (Conf.mk z1 [] [(0, OBlk.cells 28 [.int .i64 mr, .int .i64 mp, .int .i64 mt, .int .i64 mi, .bool frozen, .int .i64 mu, .dat wt, .dat hd]), (1, OBlk.cells 28 [.int .i64 0, .int .i64 0, .int .i64 0, .int .i64 0, .lb false, .int .i64 0, .nils, .nils]),
 (2, OBlk.arr 3 (D.slc (D.hd (hs_1 0 0)) 1 (List.append (D.rows out) (D.rows (D.slc (D.hd (hs 0 0)) 1 [[D.int .i64 (D.getInt wt (Int.toNat j) 0)]])))))]))))) (.leaf (Conf.mk z1 [] [(0, OBlk.cells 28 [.int .i64 mr, .int .i64 mp, .int .i64 mt, .int .i64 mi, .bool frozen, .int .i64 mu, .dat wt, .dat hd]),
 (1, OBlk.cells 28 [.int .i64 0, .int .i64 0, .int .i64 0, .int .i64 0, .lb false, .int .i64 0, .nils, .nils]), (2, OBlk.arr 3 out)]))))) (.br frozen (.all fun hs => .need (D.sz (D.slc (D.hd (hs 0 0)) 1 []) = 1 ∧ D.Fits hd 1 ∧
 (D.len (D.slc (D.hd (hs 0 0)) 1 []) + D.len hd) * 8 ≤ 140737488355328 ∧ D.len (D.slc (D.hd (hs 0 0)) 1 []) + D.len hd ≤ 9223372036854775807) (.all fun hs_1 => .all fun hs_2 => .need (D.sz (D.slc (D.hd
 (hs_1 0 0)) 1 (List.append (D.rows (D.slc (D.hd (hs 0 0)) 1 [])) (D.rows hd))) = 1 ∧ D.Fits (D.slc (D.hd (hs_2 0 0)) 1 [[D.int .i64 write]]) 1 ∧ (D.len (D.slc (D.hd (hs_1 0 0)) 1 (List.append (D.rows (D.slc
 (D.hd (hs 0 0)) 1 [])) (D.rows hd))) + D.len (D.slc (D.hd (hs_2 0 0)) 1 [[D.int .i64 write]])) * 8 ≤ 140737488355328 ∧ D.len (D.slc (D.hd (hs_1 0 0)) 1 (List.append (D.rows (D.slc (D.hd (hs 0 0)) 1 []))
 (D.rows hd))) + D.len (D.slc (D.hd (hs_2 0 0)) 1 [[D.int .i64 write]]) ≤ 9223372036854775807) (.all fun hs_3 => .ret (SV.tup [.agg [.int .i64 mr, .int .i64 mp, .int .i64 mt, .int .i64 mi, .bool frozen, .int .i64 mu, .dat out, .dat
 (D.slc (D.hd (hs_3 0 0)) 1 (List.append (D.rows (D.slc (D.hd (hs_1 0 0)) 1 (List.append (D.rows (D.slc (D.hd (hs 0 0)) 1 [])) (D.rows hd)))) (D.rows (D.slc (D.hd (hs_2 0 0)) 1 [[D.int .i64 write]]))))], .nils, .int .i64 0]))))
 (.all fun hs => .ret (SV.tup [.agg [.int .i64 mr, .int .i64 mp, .int .i64 mt, .int .i64 mi, .bool frozen, .int .i64 mu, .dat out, .dat hd], .dat (D.slc (D.hd (hs 0 0)) 1 [[D.int .i64 write]]), .int .i64 0]))) := by
 intros; kernel_rfl

end
end Go.Proofs.Ytoechplbhbalaaa
end
section
open Go Go.Proofs Sx
namespace Sx

theorem checkMb_or (m : Mb) : checkMb m = 0 ∨ checkMb m = 3 := by
 unfold checkMb
 repeat' split
 all_goals simp

theorem checkMb_up {m : Mb} (h : checkMb m = 0) : ∀ i, (hi : i + 1 < m.waiting.length) → m.waiting[i] < m.waiting[i + 1] := by
 unfold checkMb at h
 split at h
 ·cases h
 ·split at h
  ·cases h
  ·rename_i hh
   simp only [Bool.not_eq_true, List.any_eq_false, List.mem_range, badW, Bool.or_eq_true, not_or, Bool.and_eq_true, decide_eq_true_eq, not_and] at hh
   intro i hi
   have := (hh (i + 1) hi).2 (by omega)
   simp [hi, show i < m.waiting.length by omega] at this
   omega

theorem up_lt {l : List Int} (h : ∀ i, (hi : i + 1 < l.length) → l[i] < l[i + 1]) : ∀ k i, (hk : i + k + 1 < l.length) → l[i] < l[i + k + 1]
 | 0, i, hk => h i hk
 | k + 1, i, hk => by
  have h1 := up_lt h k i (by omega)
  have h2 := h (i + k + 1) (by omega)
  have e : i + (k + 1) + 1 = i + k + 1 + 1 := by omega
  simp only [e]
  omega

theorem filter_up {l : List Int} (h : ∀ i, (hi : i + 1 < l.length) → l[i] < l[i + 1]) {i : Nat} (hi : i < l.length) : l.filter (fun y => y != l[i]) = l.take i ++ l.drop (i + 1) := by
 have e : l = l.take i ++ (l[i] :: l.drop (i + 1)) := by rw [List.getElem_cons_drop, List.take_append_drop]
 have e2 : ∀ p : Int → Bool, l.filter p = (l.take i ++ (l[i] :: l.drop (i + 1))).filter p := fun p => congrArg (List.filter p) e
 rw [e2, List.filter_append, List.filter_cons]
 simp only [bne_self_eq_false, Bool.false_eq_true, if_false]
 rw [List.filter_eq_self.2, List.filter_eq_self.2]
 ·intro y hy
  obtain ⟨k, hk, rfl⟩ := List.mem_iff_getElem.1 hy
  simp only [List.length_drop] at hk
  rw [List.getElem_drop]
  have h1 := up_lt h k i (by omega)
  have e : i + 1 + k = i + k + 1 := by omega
  simp only [e, bne_iff_ne]
  omega
 ·intro y hy
  obtain ⟨k, hk, rfl⟩ := List.mem_iff_getElem.1 hy
  simp only [List.length_take] at hk
  rw [List.getElem_take]
  have h1 := up_lt h (i - k - 1) k (by omega)
  have e : k + (i - k - 1) + 1 = i := by omega
  simp only [e] at h1
  simp only [bne_iff_ne]
  omega

theorem idxP_cases (l : List Int) (x : Int) : (idxP l (fun y => decide (x = y)) = -1 ∧ l.contains x = false) ∨ ∃ i : Nat, idxP l (fun y => decide (x = y)) = i ∧ ∃ h : i < l.length, l[i] = x := by
 unfold idxP
 cases hf : l.findIdx? (fun y => decide (x = y)) with
 | none =>
  refine .inl ⟨rfl, ?_⟩
  rw [List.findIdx?_eq_none_iff] at hf
  rw [Bool.eq_false_iff]
  intro hc
  have := hf x (List.contains_iff_mem.1 hc)
  simp at this
 | some i =>
  rw [List.findIdx?_eq_some_iff_getElem] at hf
  obtain ⟨h1, h2, _⟩ := hf
  exact .inr ⟨i, rfl, h1, by simpa using (of_decide_eq_true h2).symm⟩

theorem dur_bad {m : Mb} {x : Int} (h : ¬checkMb m = 0) : durMb m x = (noMb, [], 3) := by rw [durMb, if_pos h]
theorem dur_none {m : Mb} {x : Int} (h : checkMb m = 0) (h2 : m.waiting.contains x = false) : durMb m x = (noMb, [], 7) := by rw [durMb, if_neg (not_not_intro h), if_pos h2]
theorem dur_held {m : Mb} {x : Int} (h : checkMb m = 0) (h2 : m.waiting.contains x = true) (h3 : m.frozen = true) : durMb m x = ({ m with waiting := m.waiting.filter fun y => y != x, held := m.held ++ [x] }, [], 0) := by
 rw [durMb, if_neg (not_not_intro h), if_neg (by rw [h2]; decide), if_pos h3]
theorem dur_free {m : Mb} {x : Int} (h : checkMb m = 0) (h2 : m.waiting.contains x = true) (h3 : m.frozen = false) : durMb m x = ({ m with waiting := m.waiting.filter fun y => y != x }, [x], 0) := by
 rw [durMb, if_neg (not_not_intro h), if_neg (by rw [h2]; decide), if_neg (by simp [h3])]

section
variable {P : Program} {w : World} {H : HV}
theorem ret_mb2I {r p t i u k : Int} {F W Hd X : SV} {f : Bool} {ws hs av : List Int} {res : Mb × List Int × Int} (hf : ∀ E, F.den E = (SV.bool f).den E) (hw : Stands Int W ws) (hh : Stands Int Hd hs) (hx : Stands Int X av)
  (hr : res = (⟨r, p, t, i, f, u, ws, hs⟩, av, k)) :
  (Tree.ret (.tup [.agg [.int .i64 r, .int .i64 p, .int .i64 t, .int .i64 i, F, .int .i64 u, W, Hd], X, .int .i64 k])).holds P ⟨w, H⟩ (RetD w H fun ds => .tup [mbSV (ds 0) (ds 1) res.1, .dat ((ds 2).like res.2.1), .int .i64 res.2.2]) := by
 subst hr
 obtain ⟨d, h1, h2, h3, h4⟩ := hw
 obtain ⟨d', h1', h2', h3', h4'⟩ := hh
 obtain ⟨d'', h1'', h2'', h3'', h4''⟩ := hx
 refine ret_D (fun i => match i with | 0 => d | 1 => d' | _ => d'') (fun E E' => ?_) (fun H' ho => ?_)
 ·have : F.den E = (SV.bool f).den E' := by rw [hf]; rfl
  simp only [SV.den, SV.denL, mbSV, D.like_self h2 h3, D.like_self h2' h3', D.like_self h2'' h3'', h1, h1', h1'', this]
 ·simp only [SV.Ok, SV.OkL, mbSV, D.like_self h2 h3, D.like_self h2' h3', D.like_self h2'' h3''] at ho ⊢
  exact ⟨⟨trivial, trivial, trivial, trivial, trivial, trivial, ⟨h4 _ ho.1.2.2.2.2.2.2.1, h2.slc⟩, ⟨h4' _ ho.1.2.2.2.2.2.2.2.1, h2'.slc⟩, trivial⟩, ⟨h4'' _ ho.2.1, h2''.slc⟩, trivial, trivial⟩
end

theorem int_one (x : Int) : SRows Int [[.int .i64 x]] [x] := rows_one ⟨_, rfl⟩ rfl
end Sx

namespace Go.Proofs.Ytoechplbhbalaaa
set_option maxRecDepth 100000
set_option maxHeartbeats 0

theorem ctDOk : Ctrs.Ok Try.prog ctD := by
 intro x hx
 simp only [ctD, List.mem_cons] at hx
 rcases hx with rfl | rfl | hx
 ·exact ctr74
 ·exact ctrOf_ok lawIx
 ·exact ctMOk _ hx

theorem lawRel1 : Law Try.prog 42 ((rdMb.two rdInt).sp spRls) := by
 refine law_in _ (by kernel_rfl) fun H w ⟨⟨r, p, t, i, f, u, wt, hd⟩, now⟩ hok hp => ?_
 have hR := hp _ (List.mem_singleton.2 rfl)
 have hR' := hR
 obtain ⟨hw, hh, lw, lh⟩ := hR
 simp only at hw hh lw lh
 clear hp hok
 apply exec_sound ctDOk 600
 rw [show (rdMb.two rdInt).canon (⟨r, p, t, i, f, u, wt, hd⟩, now) = [.agg [.int .i64 r, .int .i64 p, .int .i64 t, .int .i64 i, .bool f, .int .i64 u, .dat wt, .dat hd], .int .i64 now] from rfl, rel1_in]
 have bad : (¬checkMb ⟨r, p, t, i, f, u, wt.to Int, hd.to Int⟩ = 0 ∨ f = false ∨ u > now) → relMb ⟨r, p, t, i, f, u, wt.to Int, hd.to Int⟩ now = (⟨r, p, t, i, f, u, wt.to Int, hd.to Int⟩, []) := fun h => by rw [relMb, if_pos h]
 refine ⟨hR', fun hc => ?_, fun hc => ⟨fun h1 => ?_, fun h1 => ⟨fun h2 => ?_, fun h2 => ⟨⟨hh, by omega⟩, fun hs hs1 => ?_⟩⟩⟩⟩
 ·simp only [bne_iff_ne, ne_eq] at hc
  exact ret_mb2 (fun _ => rfl) (stands_self hw) (stands_self hh) stands_nils (bad (.inl hc))
 ·simp only [Bool.not_eq_true'] at h1
  exact ret_mb2 (fun _ => rfl) (stands_self hw) (stands_self hh) stands_nils (bad (.inr (.inl h1)))
 ·simp only [decide_eq_true_eq] at h2
  exact ret_mb2 (fun _ => rfl) (stands_self hw) (stands_self hh) stands_nils (bad (.inr (.inr h2)))
 ·simp only [bne_eq_false_iff_eq] at hc
  simp only [Bool.not_eq_false'] at h1
  simp only [decide_eq_false_iff_not] at h2
  have hc : checkMb ⟨r, p, t, i, f, u, wt.to Int, hd.to Int⟩ = 0 := hc
  refine ret_mb2 lb_den (stands_self hw) stands_nils (stands_rows rfl (rows_of hh)) ?_
  show relMb ⟨r, p, t, i, f, u, wt.to Int, hd.to Int⟩ now = _
  rw [relMb, if_neg (by rintro (h | h | h); exact h hc; exact absurd (h1.symm.trans h) (by decide); exact h2 h)]
  rfl

theorem lawRel2 : Law Try.prog 43 ((rdMb.two rdInt).sp spRls) := by
 refine law_in _ (by kernel_rfl) fun H w ⟨⟨r, p, t, i, f, u, wt, hd⟩, now⟩ hok hp => ?_
 have hR := hp _ (List.mem_singleton.2 rfl)
 have hR' := hR
 obtain ⟨hw, hh, lw, lh⟩ := hR
 simp only at hw hh lw lh
 clear hp hok
 apply exec_sound ctDOk 600
 rw [show (rdMb.two rdInt).canon (⟨r, p, t, i, f, u, wt, hd⟩, now) = [.agg [.int .i64 r, .int .i64 p, .int .i64 t, .int .i64 i, .bool f, .int .i64 u, .dat wt, .dat hd], .int .i64 now] from rfl, rel2_in]
 have bad : (¬checkMb ⟨r, p, t, i, f, u, wt.to Int, hd.to Int⟩ = 0 ∨ f = false ∨ u > now) → relMb ⟨r, p, t, i, f, u, wt.to Int, hd.to Int⟩ now = (⟨r, p, t, i, f, u, wt.to Int, hd.to Int⟩, []) := fun h => by rw [relMb, if_pos h]
 refine ⟨hR', fun hc => ?_, fun hc => ⟨fun h1 => ?_, fun h1 => ⟨fun h2 => ?_, fun h2 => ⟨hR', fun hs => ?_⟩⟩⟩⟩
 ·simp only [bne_iff_ne, ne_eq] at hc
  exact ret_mb2 (fun _ => rfl) (stands_self hw) (stands_self hh) stands_nils (bad (.inl hc))
 ·simp only [Bool.not_eq_true'] at h1
  exact ret_mb2 (fun _ => rfl) (stands_self hw) (stands_self hh) stands_nils (bad (.inr (.inl h1)))
 ·simp only [decide_eq_true_eq] at h2
  exact ret_mb2 (fun _ => rfl) (stands_self hw) (stands_self hh) stands_nils (bad (.inr (.inr h2)))
 ·simp only [bne_eq_false_iff_eq] at hc
  simp only [Bool.not_eq_false'] at h1
  simp only [decide_eq_false_iff_not] at h2
  have hc : checkMb ⟨r, p, t, i, f, u, wt.to Int, hd.to Int⟩ = 0 := hc
  refine ret_mb2 (fun _ => rfl) stands_like stands_like stands_like ?_
  show relMb ⟨r, p, t, i, f, u, wt.to Int, hd.to Int⟩ now = _
  rw [relMb, if_neg (by rintro (h | h | h); exact h hc; exact absurd (h1.symm.trans h) (by decide); exact h2 h)]
  rfl

theorem lawDur1 : Law Try.prog 40 ((rdMb.two rdInt).sp spDur) := by
 refine law_in _ (by kernel_rfl) fun H w ⟨⟨r, p, t, i, f, u, wt, hd⟩, x⟩ hok hp => ?_
 have hR := hp _ (List.mem_singleton.2 rfl)
 have hR' := hR
 obtain ⟨hw, hh, lw, lh⟩ := hR
 simp only at hw hh lw lh
 have l1 := D.Is.length (α := Int) wt
 have l2 := rows_len (rows_of hw)
 have l3 := D.Is.length (α := Int) hd
 have l4 := rows_len (rows_of hh)
 clear hp hok
 apply exec_sound ctDOk 600
 rw [show (rdMb.two rdInt).canon (⟨r, p, t, i, f, u, wt, hd⟩, x) = [.agg [.int .i64 r, .int .i64 p, .int .i64 t, .int .i64 i, .bool f, .int .i64 u, .dat wt, .dat hd], .int .i64 x] from rfl, dur1_in]
 have hq : MbD.mb ⟨r, p, t, i, f, u, wt, hd⟩ = ⟨r, p, t, i, f, u, wt.to Int, hd.to Int⟩ := rfl
 simp only [hq]
 refine ⟨hR', fun hc => ?_, fun hc => ⟨⟨hw, by omega⟩, ?_⟩⟩
 ·simp only [bne_iff_ne, ne_eq] at hc
  have h3 : checkMb ⟨r, p, t, i, f, u, wt.to Int, hd.to Int⟩ = 3 := (checkMb_or _).resolve_left hc
  rw [h3]
  exact ret_mb2I lb_den stands_nils stands_nils stands_nils (dur_bad hc)
 ·simp only [bne_eq_false_iff_eq] at hc
  rcases idxP_cases (wt.to Int) x with ⟨e1, e2⟩ | ⟨k, e1, hk, e2⟩
  ·simp only [e1]
   refine ⟨fun _ => ?_, fun h => (by cases h)⟩
   exact ret_mb2I lb_den stands_nils stands_nils stands_nils (dur_none hc e2)
  ·simp only [e1]
   have hwr : IntKind.i64.wrap ((k : Int) + 1) = ((k + 1 : Nat) : Int) := by rw [wrap64 (by omega) (by omega)]; omega
   have hmem : (wt.to Int).contains x = true := List.contains_iff_mem.2 (by rw [← e2]; exact List.getElem_mem hk)
   have hfil : (wt.to Int).filter (fun y => y != x) = (wt.to Int).take k ++ (wt.to Int).drop (k + 1) := by
    have := filter_up (checkMb_up hc) hk
    simp only [e2] at this
    exact this
   simp only [hwr, Int.toNat_natCast]
   have hrw : ∀ h, Stands Int (.dat (.slc h 1 (List.append (List.take k (D.rows wt)) (List.drop (k + 1) (D.rows wt))))) ((wt.to Int).filter fun y => y != x) := fun h => by
    rw [hfil]; exact stands_rows rfl (rows_app (rows_take (rows_of hw) k) (rows_drop (rows_of hw) (k + 1)))
   refine ⟨fun h => ?_, fun _ => ⟨⟨hw, by omega⟩, fun hs => ⟨⟨(is_of rfl (rows_of hw)).1, by omega, by omega, by simp only [len_slc]; omega⟩, fun hs1 => ⟨fun h1 hs2 => ?_, fun h1 => ⟨⟨hh, by omega⟩, fun hs2 hs3 => ⟨⟨rfl, .inr rfl, ?_, ?_⟩, fun hs4 => ?_⟩⟩⟩⟩⟩⟩
   ·have := of_decide_eq_true h; omega
   ·simp only [Bool.not_eq_true'] at h1
    exact ret_mb2I (fun _ => rfl) (hrw _) (stands_self hh) (stands_rows rfl (int_one x)) (dur_free hc hmem h1)
   ·simp only [len_slc, List.length_cons, List.length_nil]; omega
   ·simp only [len_slc, List.length_cons, List.length_nil]; omega
   ·simp only [Bool.not_eq_false'] at h1
    have hra : SRows Int (List.append (D.rows hd) [[.int .i64 x]]) (hd.to Int ++ [x]) := rows_app (rows_of hh) (int_one x)
    exact ret_mb2I (fun _ => rfl) (hrw _) (stands_rows rfl hra) stands_nils (dur_held hc hmem h1)

theorem lawDur2 : Law Try.prog 41 ((rdMb.two rdInt).sp spDur) := by
 refine law_in _ (by kernel_rfl) fun H w ⟨⟨r, p, t, i, f, u, wt, hd⟩, x⟩ hok hp => ?_
 have hR := hp _ (List.mem_singleton.2 rfl)
 have hR' := hR
 obtain ⟨hw, hh, lw, lh⟩ := hR
 simp only at hw hh lw lh
 have l1 := D.Is.length (α := Int) wt
 have l2 := rows_len (rows_of hw)
 have l3 := D.Is.length (α := Int) hd
 have l4 := rows_len (rows_of hh)
 clear hp hok
 apply exec_sound ctDOk 600
 rw [show (rdMb.two rdInt).canon (⟨r, p, t, i, f, u, wt, hd⟩, x) = [.agg [.int .i64 r, .int .i64 p, .int .i64 t, .int .i64 i, .bool f, .int .i64 u, .dat wt, .dat hd], .int .i64 x] from rfl, dur2_in]
 have hq : MbD.mb ⟨r, p, t, i, f, u, wt, hd⟩ = ⟨r, p, t, i, f, u, wt.to Int, hd.to Int⟩ := rfl
 simp only [hq]
 refine ⟨hR', fun hc => ?_, fun hc => ⟨⟨hw, by omega⟩, fun h1 => ?_, fun h1 => ?_⟩⟩
 ·simp only [bne_iff_ne, ne_eq] at hc
  exact ret_mb2I lb_den stands_nils stands_nils stands_nils (dur_bad hc)
 ·simp only [bne_eq_false_iff_eq] at hc
  simp only [Bool.not_eq_true'] at h1
  exact ret_mb2I lb_den stands_nils stands_nils stands_nils (dur_none hc h1)
 ·simp only [bne_eq_false_iff_eq] at hc
  simp only [Bool.not_eq_false'] at h1
  refine vecTo 2 3 1 none 7 (durL r p t i u f wt hd x (.slc none 1 []) 0) (by kernel_rfl) ?_
  refine runs_loop (fun q : D × Nat => durL r p t i u f wt hd x q.1 q.2) (fun q => q.2 ≤ (wt.to Int).length ∧ q.1.Is Int ∧ q.1.sz = 1 ∧ q.1.to Int = ((wt.to Int).take q.2).filter fun y => y != x)
   (fun q => (wt.to Int).length - q.2) (fun _ => rfl) ?_ (.slc none 1 [], 0) ⟨Nat.zero_le _, is_nil _ _, rfl, rfl⟩
  intro ⟨out, j⟩ ⟨hj, ho, hs, hto⟩ ih
  simp only at hj ho hs hto
  have lo := D.Is.length (α := Int) out
  have lo2 := rows_len (rows_of ho)
  have lo3 : (out.to Int).length ≤ j := by
   rw [hto]
   exact Nat.le_trans (List.length_filter_le _ _) (by rw [List.length_take]; exact Nat.min_le_left _ _)
  apply exec_sound ctDOk 600
  rw [durl_go]
  refine ⟨fun hcj => ?_, fun hcj => ?_⟩
  ·simp [l1] at hcj
   obtain ⟨c1, c2, c3⟩ := int_at hw hcj
   rw [c3]
   refine ⟨c1, c2, fun hb => ⟨c1, c2, fun hs1 => ⟨⟨hs, .inr rfl, by simp only [len_slc, List.length_cons, List.length_nil]; omega, by simp only [len_slc, List.length_cons, List.length_nil]; omega⟩, fun hs2 => ?_⟩⟩, fun hb => ?_⟩
   ·have hra : SRows Int (List.append (D.rows out) [[.int .i64 (wt.to Int)[j]]]) (out.to Int ++ [(wt.to Int)[j]]) := rows_app (rows_of ho) (int_one _)
    obtain ⟨i1, i2⟩ := is_of (h := D.hd (hs2 0 0)) (s := 1) rfl hra
    have := ih (.slc (D.hd (hs2 0 0)) 1 (List.append (D.rows out) [[.int .i64 (wt.to Int)[j]]]), j + 1) ⟨hcj, i1, rfl, i2.trans (by rw [hto, List.take_succ_eq_append_getElem hcj, List.filter_append, List.filter_cons]; simp [hb])⟩ (by simp only; omega)
    simp only at this
    rw [← wrap_succ hcj (by omega)] at this
    exact this
   ·have := ih (out, j + 1) ⟨hcj, ho, hs, by simp only; rw [hto, List.take_succ_eq_append_getElem hcj, List.filter_append, List.filter_cons]; simp [hb]⟩ (by simp only; omega)
    simp only at this
    rw [← wrap_succ hcj (by omega)] at this
    exact this
  ·simp [l1] at hcj
   have : j = (wt.to Int).length := by omega
   subst this
   rw [List.take_length] at hto
   refine ⟨fun hf hs1 => ⟨⟨rfl, hh.fits, by simp only [len_slc, List.length_nil]; omega, by simp only [len_slc, List.length_nil]; omega⟩, fun hs2 hs3 => ⟨⟨rfl, .inr rfl, ?_, ?_⟩, fun hs4 => ?_⟩⟩, fun hf hs1 => ?_⟩
   ·have e : (List.append (D.rows (D.slc (D.hd (hs1 0 0)) 1 [])) (D.rows hd)).length = hd.rows.length := rfl
    simp only [len_slc, e, List.length_cons, List.length_nil]; omega
   ·have e : (List.append (D.rows (D.slc (D.hd (hs1 0 0)) 1 [])) (D.rows hd)).length = hd.rows.length := rfl
    simp only [len_slc, e, List.length_cons, List.length_nil]; omega
   ·have hra : SRows Int (List.append (D.rows hd) [[.int .i64 x]]) (hd.to Int ++ [x]) := rows_app (rows_of hh) (int_one x)
    exact ret_mb2I (fun _ => rfl) (stands_dat ho hto) (stands_rows rfl hra) stands_nils (dur_held hc h1 hf)
   ·exact ret_mb2I (fun _ => rfl) (stands_dat ho hto) (stands_self hh) (stands_rows rfl (int_one x)) (dur_free hc h1 hf)
end Go.Proofs.Ytoechplbhbalaaa
end
section
open Go Go.Proofs Sx
namespace Go.Proofs.Ytoechplbhbalaaa
noncomputable def ctN : Ctrs := (40, ctrOf ((rdMb.two rdInt).sp spDur)) :: (41, ctrOf ((rdMb.two rdInt).sp spDur)) :: (42, ctrOf ((rdMb.two rdInt).sp spRls)) :: (43, ctrOf ((rdMb.two rdInt).sp spRls)) :: ctL
theorem ctNOk : Ctrs.Ok Try.prog ctN := by
 intro x hx
 simp only [ctN, List.mem_cons] at hx
 rcases hx with rfl | rfl | rfl | rfl | hx
 ·exact ctrOf_ok lawDur1
 ·exact ctrOf_ok lawDur2
 ·exact ctrOf_ok lawRel1
 ·exact ctrOf_ok lawRel2
 ·exact ctLOk _ hx
end Go.Proofs.Ytoechplbhbalaaa
end
section
open Go Go.Proofs Sx
namespace Go.Proofs.Ytoechplbhbalaaa
noncomputable def ctG : Ctrs := (77, ctrOf (((rdCells grK).two rdD).sp spSend)) :: (78, ctrOf (((rdCells grK).three rdInt rdD).sp spAck)) :: ctN
theorem ctGOk : Ctrs.Ok Try.prog ctG := by
 intro x hx
 rcases List.mem_cons.1 hx with rfl | hx
 ·exact ctrOf_ok lawSend
 rcases List.mem_cons.1 hx with rfl | hx
 ·exact ctrOf_ok lawAck
 ·exact ctNOk _ hx
end Go.Proofs.Ytoechplbhbalaaa
end
section
open Go Go.Proofs Sx
namespace Go.Proofs.Ytoechplbhbalaaa
set_option maxRecDepth 100000
set_option maxHeartbeats 0
section
variable (now write : Int) (wt hd : D) (frozen : Bool) (mr mp mt mi mu : Int)

end
end Go.Proofs.Ytoechplbhbalaaa
end
section
open Go Go.Proofs Sx
namespace Sx
theorem durMb_len (m : Mb) (x : Int) : (durMb m x).1.waiting.length ≤ m.waiting.length ∧ (durMb m x).1.held.length ≤ m.held.length + 1 ∧ (durMb m x).2.1.length ≤ 1 := by
 have := List.length_filter_le (fun y => y != x) m.waiting
 unfold durMb
 repeat' split
 all_goals simp [noMb]
 all_goals omega
theorem relMb_len (m : Mb) (x : Int) : (relMb m x).1.waiting.length ≤ m.waiting.length ∧ (relMb m x).1.held.length ≤ m.held.length ∧ (relMb m x).2.length ≤ m.held.length := by
 unfold relMb
 split
 ·simp
 ·simp [thawMb]
end Sx
namespace Go.Proofs.Ytoechplbhbalaaa
set_option maxRecDepth 100000
set_option maxHeartbeats 0
def spB4 (x : MbD × Int × Int) : SpecR := .scalar [x.1.w.Is Int ∧ x.1.h.Is Int] (.lb true)

end Go.Proofs.Ytoechplbhbalaaa
end
section
open Go
namespace Sx
def rdU8 : Rd1 Int where
 read x := match x with | .int .u8 n => some n | _ => none
 canon n := .int .u8 n
 right H E x b h hok := by
  split at h
  ·cases h; exact ⟨rfl, trivial⟩
  ·cases h
def rdEv : Rd1 (Int × Int × Int) where
 read x := match x with | .agg [.int .u8 a, .int .u8 b, .int .u8 c] => some (a, b, c) | _ => none
 canon x := .agg [.int .u8 x.1, .int .u8 x.2.1, .int .u8 x.2.2]
 right H E x b h hok := by
  split at h
  ·cases h; exact ⟨rfl, trivial, trivial, trivial, trivial⟩
  ·cases h

def U8 (n : Int) : Prop := 0 ≤ n ∧ n ≤ 255
noncomputable def grSp (l : List CV) (p : Prop) (g : Gr) : SpecR := .data [GrRight l ∧ p ∧ g.right = true] fun ds => .agg (svOf ds 0 g.cls)
noncomputable def spRecv (x : GrX × MsgD) : SpecR := grSp x.1.1 True (recvG (grOf x.1.1) x.2.msg)
noncomputable def spTick (x : GrX × Int × Int × Int) : SpecR := grSp x.1.1 ((U8 x.2.2.1 ∧ U8 x.2.2.2) ∧ (grOf x.1.1).flight.length ≤ 999000) (tickG (grOf x.1.1) x.2.2.1 x.2.2.2)
noncomputable def spFlight (x : GrX × Int × Int × Int) : SpecR := grSp x.1.1 (U8 x.2.1 ∧ U8 x.2.2.2) (flightG (grOf x.1.1) x.2.1 x.2.2.2)
noncomputable def spDurG (x : GrX × Int × Int) : SpecR := match x.2.1 with
 | .ofNat n => match n with
  | 0 => grSp x.1.1 (U8 x.2.2) (durG (grOf x.1.1) 0 x.2.2)
  | 1 => grSp x.1.1 (U8 x.2.2) (durG (grOf x.1.1) 1 x.2.2)
  | 2 => grSp x.1.1 (U8 x.2.2) (durG (grOf x.1.1) 2 x.2.2)
  | _ => .no
 | _ => .no
def nodeOf (n : Int) : Fin 3 := if Int.tmod n 3 = 0 then 0 else if Int.tmod n 3 = 1 then 1 else 2
noncomputable def spStep (x : GrX × Int × Int × Int) : SpecR := grSp x.1.1 ((U8 x.2.1 ∧ U8 x.2.2.1 ∧ U8 x.2.2.2) ∧ (grOf x.1.1).flight.length ≤ 999000) (stepG (grOf x.1.1) x.2.1 (nodeOf x.2.2.1) x.2.2.1 x.2.2.2)
end Sx
end
section
open Go Go.Proofs Sx
namespace Sx
theorem right_like_of {a b c e g : Int} {x y : D} {p q : List Int} {v : Bool} (h1 : p.length ≤ 1048575) (h2 : q.length ≤ 1048575) : (MbD.mk a b c e v g (x.like p) (y.like q)).Right := (right_like ..).2 ⟨h1, h2⟩
theorem lst_ok {α : Type} {c : Codec α} {v : SV} {l : List α} (h : Stands α v l) : CellOk v (.lst c l) := h
theorem bool_ok {b c : Bool} (h : c = b) : CellOk (.bool b) (.bool c) := fun E => by rw [h]
def tri {α : Type} (a b c : α) : Fin 3 → α := fun i => match i with | 0 => a | 1 => b | 2 => c
theorem tri_0 {α : Type} (a b c : α) : tri a b c 0 = a := rfl
theorem tri_1 {α : Type} (a b c : α) : tri a b c 1 = b := rfl
theorem tri_2 {α : Type} (a b c : α) : tri a b c 2 = c := rfl
theorem tri_upd0 {α : Type} (a b c v : α) : upd (tri a b c) 0 v = tri v b c := by funext i; match i with | 0 => rfl | 1 => rfl | 2 => rfl
theorem tri_upd1 {α : Type} (a b c v : α) : upd (tri a b c) 1 v = tri a v c := by funext i; match i with | 0 => rfl | 1 => rfl | 2 => rfl
theorem tri_upd2 {α : Type} (a b c v : α) : upd (tri a b c) 2 v = tri a b v := by funext i; match i with | 0 => rfl | 1 => rfl | 2 => rfl

theorem grOf_eq {cn cr cp cdl : Int} {cps css : D} {cv : Bool} {p1 p2 p3 p4 : Int} {pf : Bool} {p6 : Int} {pw ph : D} {q1 q2 q3 q4 : Int} {qf : Bool} {q6 : Int} {qw qh : D} {r1 r2 r3 r4 : Int} {rf : Bool} {r6 : Int} {rw rh : D} {fl wa wb wc : D} {now clk : Int} {rt : Bool} {st : Int} : grOf (cv9 cn cr cp cdl cps css cv p1 p2 p3 p4 pf p6 pw ph q1 q2 q3 q4 qf q6 qw qh r1 r2 r3 r4 rf r6 rw rh fl wa wb wc now clk rt st) = ⟨⟨cn, cr, cp, cdl, cps.to Int, css.to Bool, cv⟩, tri ⟨p1, p2, p3, p4, pf, p6, pw.to Int, ph.to Int⟩ ⟨q1, q2, q3, q4, qf, q6, qw.to Int, qh.to Int⟩ ⟨r1, r2, r3, r4, rf, r6, rw.to Int, rh.to Int⟩, fl.to Msg, tri (wa.to Wr) (wb.to Wr) (wc.to Wr), now, clk, rt, st⟩ := by kernel_rfl
theorem grRight_eq {cn cr cp cdl : Int} {cps css : D} {cv : Bool} {p1 p2 p3 p4 : Int} {pf : Bool} {p6 : Int} {pw ph : D} {q1 q2 q3 q4 : Int} {qf : Bool} {q6 : Int} {qw qh : D} {r1 r2 r3 r4 : Int} {rf : Bool} {r6 : Int} {rw rh : D} {fl wa wb wc : D} {now clk : Int} {rt : Bool} {st : Int} : GrRight (cv9 cn cr cp cdl cps css cv p1 p2 p3 p4 pf p6 pw ph q1 q2 q3 q4 qf q6 qw qh r1 r2 r3 r4 rf r6 rw rh fl wa wb wc now clk rt st) = ((cps.Is Int ∧ css.Is Bool) ∧ (MbD.mk p1 p2 p3 p4 pf p6 pw ph).Right ∧ (MbD.mk q1 q2 q3 q4 qf q6 qw qh).Right ∧ (MbD.mk r1 r2 r3 r4 rf r6 rw rh).Right ∧ (fl.Is Msg ∧ fl.len ≤ 1000000) ∧ (wa.Is Wr ∧ wa.len ≤ 1000000) ∧ (wb.Is Wr ∧ wb.len ≤ 1000000) ∧ (wc.Is Wr ∧ wc.len ≤ 1000000)) := by kernel_rfl
theorem cls_tri {c : Co} {a b d : Mb} {f : List Msg} {x y z : List Wr} {now clk st : Int} {rt : Bool} : Gr.cls ⟨c, tri a b d, f, tri x y z, now, clk, rt, st⟩ =
  (.int c.nodes :: .int c.round :: .int c.phase :: .int c.deadline :: .lst inferInstance c.positions :: .lst inferInstance c.seen :: .bool c.valid ::
   .int a.round :: .int a.position :: .int a.thawed :: .int a.issued :: .bool a.frozen :: .int a.upto :: .lst inferInstance a.waiting :: .lst inferInstance a.held :: .int b.round :: .int b.position :: .int b.thawed :: .int b.issued :: .bool b.frozen :: .int b.upto :: .lst inferInstance b.waiting :: .lst inferInstance b.held :: .int d.round :: .int d.position :: .int d.thawed :: .int d.issued :: .bool d.frozen :: .int d.upto :: .lst inferInstance d.waiting :: .lst inferInstance d.held ::
   .lst inferInstance f :: .lst inferInstance x :: .lst inferInstance y :: .lst inferInstance z :: .int now :: .int clk :: .bool rt :: .int st :: []) := by kernel_rfl

theorem ackW_len (c : Int) (f : Bool) : ∀ (l : List Int) (w : List Wr), (ackW c f l w).1.length = w.length
 | [], w => rfl
 | x :: l, w => by
  unfold ackW
  split
  ·rfl
  ·simp only [ackW_len c f l, List.length_set]
theorem relG_right {g : Gr} {i : Fin 3} (h : (relG g i).right = true) : g.right = true ∧ (ackW g.clock (relMb (g.node i) g.now).1.frozen (relMb (g.node i) g.now).2 (g.wr i)).2 = true := by
 simp only [relG, ackG, Bool.and_eq_true] at h
 refine ⟨h.1, ?_⟩
 have e : upd g.node i (relMb (g.node i) g.now).1 i = (relMb (g.node i) g.now).1 := if_pos rfl
 rw [e] at h
 exact h.2
end Sx
end
