/- Layer 25: a step, its arms walked. -/
import Derived.KernelRfl
import Derived.Test.YtanpcdcgkhbomaaN16toYT304
set_option linter.all false
section
open Go Go.Proofs Sx
namespace Go.Proofs.Ytanpcdcgkhbomaa
set_option maxRecDepth 100000
set_option maxHeartbeats 0
section
variable (dl dr da mp : D) (now term margin we wh wu fe fo k si ww : Int)
theorem st0_in : 
 let z1 := (Int.toNat (Int.tmod (IntKind.wrap .i64 (Int.tmod si 3 + 3)) 3))
 let z2 := (IntKind.wrap .i64 ((if D.getInt dl z1 1 > 1 then D.getInt dl z1 1 else 1) + Int.tmod (IntKind.wrap .i64 (Int.tmod ww 3 + 3)) 3))
 let z3 := (SFrm.mk 5 none none [Item.code (cAt Try.prog 5 [1, 1, 1, 0, 1, 0, 1, 1, 1, 1, 1, 1, 1, 1, 1, 1, 1, 0, 1])] (mkJ 0 [(4, .lb true)] 0 161))
 execRX Try.prog ctS [] [] 900 (Conf.mk (SFrm.mk 5 none none [Item.code (cAt Try.prog 5 [1, 1, 1, 0, 1, 0, 1, 0, 0]), Item.code (cAt Try.prog 5 [1, 1, 1, 0, 1, 0, 1, 0, 1]), Item.inBlock 0, Item.code (cAt Try.prog 5 [1, 1, 1, 1])] (mkJ 0 [(0, .ptr 100000 0), (3, .ptr 1 0), (6, .ptr 2 0)] 0 161)) [] [(1, OBlk.cells 28 [.int .i64 k, .int .i64 si, .int .i64 ww]), (2, OBlk.cells 33 [.int .i64 (D.getInt dl (Int.toNat (Int.tmod (IntKind.wrap .i64 (Int.tmod si 3 + 3)) 3)) 0), .int .i64 (D.getInt dl (Int.toNat (Int.tmod (IntKind.wrap .i64 (Int.tmod si 3 + 3)) 3)) 1), .int .i64 (D.getInt dl (Int.toNat (Int.tmod (IntKind.wrap .i64 (Int.tmod si 3 + 3)) 3)) 2)]), (3, OBlk.arr 33 dl), (4, OBlk.arr 60 dr), (5, OBlk.arr 52 da), (100000, OBlk.cells 42 [.int .i64 now, .int .i64 term, .int .i64 margin, .int .i64 we, .int .i64 wh, .int .i64 wu, .vec 3, .vec 4, .vec 5, .int .i64 fe, .int .i64 fo, .lb false]), (100001, OBlk.mapD .i64 false [FT.int .i64] mp), (100002, OBlk.cells 28 [.int .i64 k, .int .i64 si, .int .i64 ww])]) =
 Tree.need ((3 : Int) ≠ 0) (.need ((3 : Int) ≠ 0) (.all fun hs => .br (decide (askI (D.getInt dl z1 0, D.getInt dl z1 1, D.getInt dl z1 2) z2 = 0)) (.all fun hs => .need (D.sz dr = 9 ∧ D.Fits (D.slc (D.hd
 (hs 11 0)) 9 [[D.int .i64 now, D.int .i64 (zi (askI (D.getInt dl z1 0, D.getInt dl z1 1, D.getInt dl z1 2) z2 = 0) 15), D.int .i64 (zi (askI (D.getInt dl z1 0, D.getInt dl z1 1, D.getInt dl z1 2) z2 = 0)
 (D.getInt dl z1 0)), D.int .i64 (zi (askI (D.getInt dl z1 0, D.getInt dl z1 1, D.getInt dl z1 2) z2 = 0) 4), D.int .i64 (↑(D.len dr) : Int), D.int .i64 0, D.int .i64 (zi (askI (D.getInt dl z1 0, D.getInt dl z1 1, D.getInt dl z1 2) z2 = 0) z2), D.slc none 0 [], D.slc none 0 []]]) 9 ∧
 (D.len dr + D.len (D.slc (D.hd (hs 11 0)) 9 [[D.int .i64 now, D.int .i64 (zi (askI (D.getInt dl z1 0, D.getInt dl z1 1, D.getInt dl z1 2) z2 = 0) 15), D.int .i64 (zi (askI (D.getInt dl z1 0, D.getInt dl z1 1, D.getInt dl z1 2) z2 = 0)
 (D.getInt dl z1 0)), D.int .i64 (zi (askI (D.getInt dl z1 0, D.getInt dl z1 1, D.getInt dl z1 2) z2 = 0) 4), D.int .i64 (↑(D.len dr) : Int), D.int .i64 0, D.int .i64 (zi (askI (D.getInt dl z1 0, D.getInt dl z1 1, D.getInt dl z1 2) z2 = 0) z2), D.slc none 0 [], D.slc none 0 []]])) * 104 ≤ 140737488355328 ∧ D.len dr + D.len
 (D.slc (D.hd (hs 11 0)) 9 [[D.int .i64 now, D.int .i64 (zi (askI (D.getInt dl z1 0, D.getInt dl z1 1, D.getInt dl z1 2) z2 = 0) 15), D.int .i64 (zi (askI (D.getInt dl z1 0, D.getInt dl z1 1, D.getInt dl z1 2) z2 = 0)
 (D.getInt dl z1 0)), D.int .i64 (zi (askI (D.getInt dl z1 0, D.getInt dl z1 1, D.getInt dl z1 2) z2 = 0) 4), D.int .i64 (↑(D.len dr) : Int), D.int .i64 0, D.int .i64 (zi (askI (D.getInt dl z1 0, D.getInt dl z1 1, D.getInt dl z1 2) z2 = 0) z2), D.slc none 0 [], D.slc none 0 []]]) ≤ 9223372036854775807)
 (.leaf (Conf.mk z3 [] [(0, OBlk.arr 60 (D.slc (D.hd (hs 12 0)) 9 (List.append (D.rows dr) (D.rows (D.slc (D.hd (hs 11 0)) 9 [[D.int .i64 now, D.int .i64 (zi (askI (D.getInt dl z1 0, D.getInt dl z1 1, D.getInt dl z1 2) z2 = 0) 15), D.int .i64
 (zi (askI (D.getInt dl z1 0, D.getInt dl z1 1, D.getInt dl z1 2) z2 = 0) (D.getInt dl z1 0)), D.int .i64 (zi (askI (D.getInt dl z1 0, D.getInt dl z1 1, D.getInt dl z1 2) z2 = 0) 4), D.int .i64 (↑(D.len dr) : Int), D.int .i64 0, D.int .i64
 (zi (askI (D.getInt dl z1 0, D.getInt dl z1 1, D.getInt dl z1 2) z2 = 0) z2), D.slc none 0 [], D.slc none 0 []]]))))), (1, OBlk.arr 33 dl), (2, OBlk.arr 52 da), (100000, OBlk.cells 42 [.int .i64 now, .int .i64 term, .int .i64 margin, .int .i64 we, .int .i64 wh, .int .i64 wu, .vec 1, .vec 0, .vec 2, .int .i64 fe, .int .i64 fo, .lb false]),
 (100001, OBlk.mapD .i64 false [FT.int .i64] mp), (100002, OBlk.cells 28 [.int .i64 k, .int .i64 si, .int .i64 ww])]))) (.leaf (Conf.mk z3 [] [(0, OBlk.arr 33 dl), (1, OBlk.arr 60 dr), (2, OBlk.arr 52 da),
 (100000, OBlk.cells 42 [.int .i64 now, .int .i64 term, .int .i64 margin, .int .i64 we, .int .i64 wh, .int .i64 wu, .vec 0, .vec 1, .vec 2, .int .i64 fe, .int .i64 fo, .lb false]), (100001, OBlk.mapD .i64 false [FT.int .i64] mp),
 (100002, OBlk.cells 28 [.int .i64 k, .int .i64 si, .int .i64 ww])])))) := by
 intros; kernel_rfl

theorem st1_in : 
 let z1 := (Int.toNat (Int.tmod (IntKind.wrap .i64 (Int.tmod si 3 + 3)) 3))
 let z2 := (SFrm.mk 5 none none [Item.code (cAt Try.prog 5 [1, 1, 1, 0, 1, 0, 1, 1, 1, 1, 1, 1, 1, 1, 1, 1, 1, 0, 1])] (mkJ 0 [(4, .lb true)] 0 161))
 execRX Try.prog ctS [] [] 900 (Conf.mk (SFrm.mk 5 none none [Item.code (cAt Try.prog 5 [1, 1, 1, 0, 1, 0, 1, 1, 1, 0, 0]), Item.code (cAt Try.prog 5 [1, 1, 1, 0, 1, 0, 1, 1, 1, 0, 1]), Item.inBlock 0, Item.code (cAt Try.prog 5 [1, 1, 1, 1])] (mkJ 0 [(0, .ptr 100000 0), (6, .ptr 1 0)] 0 161)) [] [(1, OBlk.cells 33 [.int .i64 (D.getInt dl (Int.toNat (Int.tmod (IntKind.wrap .i64 (Int.tmod si 3 + 3)) 3)) 0), .int .i64 (D.getInt dl (Int.toNat (Int.tmod (IntKind.wrap .i64 (Int.tmod si 3 + 3)) 3)) 1), .int .i64 (D.getInt dl (Int.toNat (Int.tmod (IntKind.wrap .i64 (Int.tmod si 3 + 3)) 3)) 2)]), (2, OBlk.arr 33 dl), (3, OBlk.arr 60 dr), (4, OBlk.arr 52 da), (100000, OBlk.cells 42 [.int .i64 now, .int .i64 term, .int .i64 margin, .int .i64 we, .int .i64 wh, .int .i64 wu, .vec 2, .vec 3, .vec 4, .int .i64 fe, .int .i64 fo, .lb false]), (100001, OBlk.mapD .i64 false [FT.int .i64] mp), (100002, OBlk.cells 28 [.int .i64 k, .int .i64 si, .int .i64 ww])]) =
 Tree.all fun hs => .br (decide (renewI (D.getInt dl z1 0, D.getInt dl z1 1, D.getInt dl z1 2) = 0)) (.all fun hs => .need (D.sz dr = 9 ∧ D.Fits (D.slc (D.hd (hs 11 0)) 9 [[D.int .i64 now, D.int .i64 (zi
 (renewI (D.getInt dl z1 0, D.getInt dl z1 1, D.getInt dl z1 2) = 0) 17), D.int .i64 (zi (renewI (D.getInt dl z1 0, D.getInt dl z1 1, D.getInt dl z1 2) = 0) (D.getInt dl z1 0)), D.int .i64 (zi (renewI (D.getInt dl z1 0, D.getInt dl z1 1, D.getInt dl z1 2) = 0) 4), D.int .i64
 (↑(D.len dr) : Int), D.int .i64 0, D.int .i64 (zi (renewI (D.getInt dl z1 0, D.getInt dl z1 1, D.getInt dl z1 2) = 0) (D.getInt dl z1 1)), D.slc none 0 [], D.slc none 0 []]]) 9 ∧ (D.len dr + D.len (D.slc
 (D.hd (hs 11 0)) 9 [[D.int .i64 now, D.int .i64 (zi (renewI (D.getInt dl z1 0, D.getInt dl z1 1, D.getInt dl z1 2) = 0) 17), D.int .i64 (zi (renewI (D.getInt dl z1 0, D.getInt dl z1 1, D.getInt dl z1 2) = 0)
 (D.getInt dl z1 0)), D.int .i64 (zi (renewI (D.getInt dl z1 0, D.getInt dl z1 1, D.getInt dl z1 2) = 0) 4), D.int .i64 (↑(D.len dr) : Int), D.int .i64 0, D.int .i64 (zi (renewI (D.getInt dl z1 0, D.getInt dl z1 1, D.getInt dl z1 2) = 0)
 (D.getInt dl z1 1)), D.slc none 0 [], D.slc none 0 []]])) * 104 ≤ 140737488355328 ∧ D.len dr + D.len (D.slc (D.hd (hs 11 0)) 9 [[D.int .i64 now, D.int .i64 (zi (renewI (D.getInt dl z1 0, D.getInt dl z1 1, D.getInt dl z1 2) = 0) 17), D.int .i64
 (zi (renewI (D.getInt dl z1 0, D.getInt dl z1 1, D.getInt dl z1 2) = 0) (D.getInt dl z1 0)), D.int .i64 (zi (renewI (D.getInt dl z1 0, D.getInt dl z1 1, D.getInt dl z1 2) = 0) 4), D.int .i64 (↑(D.len dr) : Int), D.int .i64 0, D.int .i64
 (zi (renewI (D.getInt dl z1 0, D.getInt dl z1 1, D.getInt dl z1 2) = 0) (D.getInt dl z1 1)), D.slc none 0 [], D.slc none 0 []]]) ≤ 9223372036854775807) (.leaf (Conf.mk z2 [] [(0, OBlk.arr 60 (D.slc (D.hd
 (hs 12 0)) 9 (List.append (D.rows dr) (D.rows (D.slc (D.hd (hs 11 0)) 9 [[D.int .i64 now, D.int .i64 (zi (renewI (D.getInt dl z1 0, D.getInt dl z1 1, D.getInt dl z1 2) = 0) 17), D.int .i64 (zi (renewI
 (D.getInt dl z1 0, D.getInt dl z1 1, D.getInt dl z1 2) = 0) (D.getInt dl z1 0)), D.int .i64 (zi (renewI (D.getInt dl z1 0, D.getInt dl z1 1, D.getInt dl z1 2) = 0) 4), D.int .i64 (↑(D.len dr) : Int), D.int .i64 0, D.int .i64
 (zi (renewI (D.getInt dl z1 0, D.getInt dl z1 1, D.getInt dl z1 2) = 0) (D.getInt dl z1 1)), D.slc none 0 [], D.slc none 0 []]]))))), (1, OBlk.arr 33 dl), (2, OBlk.arr 52 da), (100000, OBlk.cells 42 [.int .i64 now, .int .i64 term, .int .i64 margin, .int .i64 we, .int .i64 wh, .int .i64 wu, .vec 1, .vec 0, .vec 2, .int .i64 fe, .int .i64 fo, .lb false]),
 (100001, OBlk.mapD .i64 false [FT.int .i64] mp), (100002, OBlk.cells 28 [.int .i64 k, .int .i64 si, .int .i64 ww])]))) (.leaf (Conf.mk z2 [] [(0, OBlk.arr 33 dl), (1, OBlk.arr 60 dr), (2, OBlk.arr 52 da),
 (100000, OBlk.cells 42 [.int .i64 now, .int .i64 term, .int .i64 margin, .int .i64 we, .int .i64 wh, .int .i64 wu, .vec 0, .vec 1, .vec 2, .int .i64 fe, .int .i64 fo, .lb false]), (100001, OBlk.mapD .i64 false [FT.int .i64] mp),
 (100002, OBlk.cells 28 [.int .i64 k, .int .i64 si, .int .i64 ww])])) := by
 intros; kernel_rfl

theorem st2_in : 
 let z3 := (IntKind.wrap .i64 (Int.tmod si 3 + 3))
 let z1 := (Int.toNat (Int.tmod z3 3))
 let z2 := (giveL (D.getInt dl z1 0, D.getInt dl z1 1, D.getInt dl z1 2))
 execRX Try.prog ctS [] [] 900 (Conf.mk (SFrm.mk 5 none none [Item.code (cAt Try.prog 5 [1, 1, 1, 0, 1, 0, 1, 1, 1, 1, 1, 0, 0]), Item.code (cAt Try.prog 5 [1, 1, 1, 0, 1, 0, 1, 1, 1, 1, 1, 0, 1]), Item.inBlock 0, Item.code (cAt Try.prog 5 [1, 1, 1, 1])] (mkJ 0 [(0, .ptr 100000 0), (5, .int .i64 (Int.tmod (IntKind.wrap .i64 (Int.tmod si 3 + 3)) 3)), (6, .ptr 1 0)] 0 161)) [] [(1, OBlk.cells 33 [.int .i64 (D.getInt dl (Int.toNat (Int.tmod (IntKind.wrap .i64 (Int.tmod si 3 + 3)) 3)) 0), .int .i64 (D.getInt dl (Int.toNat (Int.tmod (IntKind.wrap .i64 (Int.tmod si 3 + 3)) 3)) 1), .int .i64 (D.getInt dl (Int.toNat (Int.tmod (IntKind.wrap .i64 (Int.tmod si 3 + 3)) 3)) 2)]), (2, OBlk.arr 33 dl), (3, OBlk.arr 60 dr), (4, OBlk.arr 52 da), (100000, OBlk.cells 42 [.int .i64 now, .int .i64 term, .int .i64 margin, .int .i64 we, .int .i64 wh, .int .i64 wu, .vec 2, .vec 3, .vec 4, .int .i64 fe, .int .i64 fo, .lb false]), (100001, OBlk.mapD .i64 false [FT.int .i64] mp), (100002, OBlk.cells 28 [.int .i64 k, .int .i64 si, .int .i64 ww])]) =
 Tree.all fun hs => .all fun hs => .need (0 ≤ Int.tmod z3 3 ∧ Int.tmod z3 3 < (↑(D.len dl) : Int) ∧ D.sz dl = 3) (.need (Int.toNat (Int.tmod z3 3) < D.len dl ∧ 3 ≤ D.sz dl ∧ D.sz dl = 3) (.all fun hs => .need
 (D.sz dr = 9 ∧ D.Fits (D.slc (D.hd (hs 11 0)) 9 [[D.int .i64 now, D.int .i64 (zi (FormedP (D.getInt dl z1 0, D.getInt dl z1 1, D.getInt dl z1 2)) 18), D.int .i64 (zi (FormedP (D.getInt dl z1 0, D.getInt dl z1 1, D.getInt dl z1 2))
 (D.getInt dl z1 0)), D.int .i64 (zi (FormedP (D.getInt dl z1 0, D.getInt dl z1 1, D.getInt dl z1 2)) 4), D.int .i64 (↑(D.len dr) : Int), D.int .i64 0, D.int .i64 (zi (FormedP (D.getInt dl z1 0, D.getInt dl z1 1, D.getInt dl z1 2))
 (D.getInt dl z1 1)), D.slc none 0 [], D.slc none 0 []]]) 9 ∧ (D.len dr + D.len (D.slc (D.hd (hs 11 0)) 9 [[D.int .i64 now, D.int .i64 (zi (FormedP (D.getInt dl z1 0, D.getInt dl z1 1, D.getInt dl z1 2)) 18), D.int .i64
 (zi (FormedP (D.getInt dl z1 0, D.getInt dl z1 1, D.getInt dl z1 2)) (D.getInt dl z1 0)), D.int .i64 (zi (FormedP (D.getInt dl z1 0, D.getInt dl z1 1, D.getInt dl z1 2)) 4), D.int .i64 (↑(D.len dr) : Int), D.int .i64 0, D.int .i64
 (zi (FormedP (D.getInt dl z1 0, D.getInt dl z1 1, D.getInt dl z1 2)) (D.getInt dl z1 1)), D.slc none 0 [], D.slc none 0 []]])) * 104 ≤ 140737488355328 ∧ D.len dr + D.len (D.slc (D.hd (hs 11 0)) 9 [[D.int .i64 now, D.int .i64
 (zi (FormedP (D.getInt dl z1 0, D.getInt dl z1 1, D.getInt dl z1 2)) 18), D.int .i64 (zi (FormedP (D.getInt dl z1 0, D.getInt dl z1 1, D.getInt dl z1 2)) (D.getInt dl z1 0)), D.int .i64 (zi (FormedP (D.getInt dl z1 0, D.getInt dl z1 1, D.getInt dl z1 2)) 4), D.int .i64
 (↑(D.len dr) : Int), D.int .i64 0, D.int .i64 (zi (FormedP (D.getInt dl z1 0, D.getInt dl z1 1, D.getInt dl z1 2)) (D.getInt dl z1 1)), D.slc none 0 [], D.slc none 0 []]]) ≤ 9223372036854775807) (.leaf
 (Conf.mk (SFrm.mk 5 none none [Item.code (cAt Try.prog 5 [1, 1, 1, 0, 1, 0, 1, 1, 1, 1, 1, 1, 1, 1, 1, 1, 1, 0, 1])] (mkJ 0 [(4, .lb true)] 0 161)) [] [(0, OBlk.arr 60 (D.slc (D.hd (hs 12 0)) 9 (List.append
 (D.rows dr) (D.rows (D.slc (D.hd (hs 11 0)) 9 [[D.int .i64 now, D.int .i64 (zi (FormedP (D.getInt dl z1 0, D.getInt dl z1 1, D.getInt dl z1 2)) 18), D.int .i64 (zi (FormedP (D.getInt dl z1 0, D.getInt dl z1 1, D.getInt dl z1 2))
 (D.getInt dl z1 0)), D.int .i64 (zi (FormedP (D.getInt dl z1 0, D.getInt dl z1 1, D.getInt dl z1 2)) 4), D.int .i64 (↑(D.len dr) : Int), D.int .i64 0, D.int .i64 (zi (FormedP (D.getInt dl z1 0, D.getInt dl z1 1, D.getInt dl z1 2))
 (D.getInt dl z1 1)), D.slc none 0 [], D.slc none 0 []]]))))), (1, OBlk.arr 33 (D.setCells dl z1 0 [D.int .i64 (Prod.fst z2), D.int .i64 (Prod.fst (Prod.snd z2)), D.int .i64 (Prod.snd (Prod.snd z2))])),
 (2, OBlk.arr 52 da), (100000, OBlk.cells 42 [.int .i64 now, .int .i64 term, .int .i64 margin, .int .i64 we, .int .i64 wh, .int .i64 wu, .vec 1, .vec 0, .vec 2, .int .i64 fe, .int .i64 fo, .lb false]),
 (100001, OBlk.mapD .i64 false [FT.int .i64] mp), (100002, OBlk.cells 28 [.int .i64 k, .int .i64 si, .int .i64 ww])])))) := by
 intros; kernel_rfl

theorem st3_in : 
 let z3 := (SFrm.mk 5 none none [Item.code (cAt Try.prog 5 [1, 1, 1, 0, 1, 0, 1, 1, 1, 1, 1, 1, 1, 1, 1, 1, 1, 0, 1])] (mkJ 0 [(4, .lb true)] 0 161))
 let z4 := (IntKind.wrap .i64 (Int.tmod ww (↑(D.len dr) : Int) + (↑(D.len dr) : Int)))
 let z1 := (Int.toNat (IntKind.wrap .i64 (IntKind.wrap .i64 ((↑(D.len dr) : Int) - 1) - Int.tmod z4 (↑(D.len dr) : Int))))
 let z2 := (handleW (we, wh, wu) now term (D.getInt dr z1 1) (D.getInt dr z1 2) (D.getInt dr z1 4) (D.getInt dr z1 6))
 execRX Try.prog ctS [] [] 900 (Conf.mk (SFrm.mk 5 none none [Item.code (cAt Try.prog 5 [1, 1, 1, 0, 1, 0, 1, 1, 1, 1, 1, 1, 1, 0, 0]), Item.code (cAt Try.prog 5 [1, 1, 1, 0, 1, 0, 1, 1, 1, 1, 1, 1, 1, 0, 1]), Item.inBlock 0, Item.code (cAt Try.prog 5 [1, 1, 1, 1])] (mkJ 0 [(0, .ptr 100000 0), (3, .ptr 1 0)] 0 161)) [] [(1, OBlk.cells 28 [.int .i64 k, .int .i64 si, .int .i64 ww]), (2, OBlk.arr 33 dl), (3, OBlk.arr 60 dr), (4, OBlk.arr 52 da), (100000, OBlk.cells 42 [.int .i64 now, .int .i64 term, .int .i64 margin, .int .i64 we, .int .i64 wh, .int .i64 wu, .vec 2, .vec 3, .vec 4, .int .i64 fe, .int .i64 fo, .lb false]), (100001, OBlk.mapD .i64 false [FT.int .i64] mp), (100002, OBlk.cells 28 [.int .i64 k, .int .i64 si, .int .i64 ww])]) =
 Tree.br (decide ((↑(D.len dr) : Int) > 0)) (.all fun hs => .need ((↑(D.len dr) : Int) ≠ 0) (.need ((↑(D.len dr) : Int) ≠ 0) (.need (0 ≤ IntKind.wrap .i64 (IntKind.wrap .i64 ((↑(D.len dr) : Int) - 1) - Int.tmod z4
 (↑(D.len dr) : Int)) ∧ IntKind.wrap .i64 (IntKind.wrap .i64 ((↑(D.len dr) : Int) - 1) - Int.tmod z4 (↑(D.len dr) : Int)) < (↑(D.len dr) : Int) ∧ D.sz dr = 9) (.need (D.HasCells dr z1 0 [FT.int .i64, FT.int .i64, FT.int .i64, FT.int .i64, FT.int .i64, FT.int .i64, FT.int .i64, FT.slc, FT.slc] ∧ D.sz dr = 9)
 (.all fun hs => .all fun hs_1 => .need (D.sz da = 8 ∧ D.Fits (D.like (hs 14 0) (Prod.snd z2)) 8 ∧ (D.len da + D.len (D.like (hs 14 0) (Prod.snd z2))) * 96 ≤ 140737488355328 ∧ D.len da + D.len (D.like (hs 14 0)
 (Prod.snd z2)) ≤ 9223372036854775807) (.leaf (Conf.mk z3 [] [(0, OBlk.arr 52 (D.slc (D.hd (hs_1 8 0)) 8 (List.append (D.rows da) (D.rows (D.like (hs 14 0) (Prod.snd z2)))))), (1, OBlk.arr 33 dl), (2, OBlk.arr 60 dr),
 (100000, OBlk.cells 42 [.int .i64 now, .int .i64 term, .int .i64 margin, .int .i64 (Prod.fst (Prod.fst z2)), .int .i64 (Prod.fst (Prod.snd (Prod.fst z2))), .int .i64 (Prod.snd (Prod.snd (Prod.fst z2))), .vec 1, .vec 2, .vec 0, .int .i64 fe, .int .i64 fo, .lb false]),
 (100001, OBlk.mapD .i64 false [FT.int .i64] mp), (100002, OBlk.cells 28 [.int .i64 k, .int .i64 si, .int .i64 ww])]))))))) (.leaf (Conf.mk z3 [] [(0, OBlk.arr 33 dl), (1, OBlk.arr 60 dr), (2, OBlk.arr 52 da),
 (100000, OBlk.cells 42 [.int .i64 now, .int .i64 term, .int .i64 margin, .int .i64 we, .int .i64 wh, .int .i64 wu, .vec 0, .vec 1, .vec 2, .int .i64 fe, .int .i64 fo, .lb false]), (100001, OBlk.mapD .i64 false [FT.int .i64] mp),
 (100002, OBlk.cells 28 [.int .i64 k, .int .i64 si, .int .i64 ww])])) := by
 intros; kernel_rfl

theorem st4_in : 
 let z9 := (IntKind.wrap .i64 (Int.tmod ww (↑(D.len da) : Int) + (↑(D.len da) : Int)))
 let z1 := (Int.toNat (IntKind.wrap .i64 (IntKind.wrap .i64 ((↑(D.len da) : Int) - 1) - Int.tmod z9 (↑(D.len da) : Int))))
 let z3 : Prop := (decide (D.getInt da z1 3 < 0) = false)
 let z5 := (D.getInt da z1 3 ≥ (↑(D.len dr) : Int))
 let z6 : Prop := (decide (D.getInt da z1 2 < 0) = false)
 let z7 : Prop := (decide (D.getInt da z1 3 < 0) = true)
 let z8 : Prop := (decide (D.getInt da z1 2 < 0) = true)
 let z10 : List SV := [.int .i64 now, .int .i64 term, .int .i64 margin, .int .i64 we, .int .i64 wh, .int .i64 wu, .vec 0, .vec 1, .vec 2, .int .i64 fe, .int .i64 fo, .lb false]
 let z11 := (SFrm.mk 5 none none [Item.code (cAt Try.prog 5 [1, 1, 1, 0, 1, 0, 1, 1, 1, 1, 1, 1, 1, 1, 1, 1, 1, 0, 1])] (mkJ 0 [(4, .lb true)] 0 161))
 let z2 : Tree := (.leaf (Conf.mk z11 [] [(0, OBlk.arr 33 dl), (1, OBlk.arr 60 dr), (2, OBlk.arr 52 da), (100000, OBlk.cells 42 z10), (100001, OBlk.mapD .i64 false [FT.int .i64] mp), (100002, OBlk.cells 28 [.int .i64 k, .int .i64 si, .int .i64 ww])]))
 let z12 := (Int.toNat (D.getInt da z1 2))
 let z4 := (learnL (D.getInt dl z12 0, D.getInt dl z12 1, D.getInt dl z12 2) (D.getInt dr (Int.toNat (D.getInt da z1 3)) 0) term margin (D.getInt da z1 0) (D.getInt da z1 2) (D.getInt da z1 4) (D.getInt da z1 5))
 execRX Try.prog ctS [] [] 900 (Conf.mk (SFrm.mk 5 none none [Item.code (cAt Try.prog 5 [1, 1, 1, 0, 1, 0, 1, 1, 1, 1, 1, 1, 1, 1, 1, 0]), Item.inBlock 0, Item.code (cAt Try.prog 5 [1, 1, 1, 1])] (mkJ 0 [(0, .ptr 100000 0), (3, .ptr 1 0)] 0 161)) [] [(1, OBlk.cells 28 [.int .i64 k, .int .i64 si, .int .i64 ww]), (2, OBlk.arr 33 dl), (3, OBlk.arr 60 dr), (4, OBlk.arr 52 da), (100000, OBlk.cells 42 [.int .i64 now, .int .i64 term, .int .i64 margin, .int .i64 we, .int .i64 wh, .int .i64 wu, .vec 2, .vec 3, .vec 4, .int .i64 fe, .int .i64 fo, .lb false]), (100001, OBlk.mapD .i64 false [FT.int .i64] mp), (100002, OBlk.cells 28 [.int .i64 k, .int .i64 si, .int .i64 ww])]) =
 Tree.br (decide ((↑(D.len da) : Int) = 0)) z2 (.all fun hs => .need ((↑(D.len da) : Int) ≠ 0) (.need ((↑(D.len da) : Int) ≠ 0) (.need (0 ≤ IntKind.wrap .i64 (IntKind.wrap .i64 ((↑(D.len da) : Int) - 1) - Int.tmod z9
 (↑(D.len da) : Int)) ∧ IntKind.wrap .i64 (IntKind.wrap .i64 ((↑(D.len da) : Int) - 1) - Int.tmod z9 (↑(D.len da) : Int)) < (↑(D.len da) : Int) ∧ D.sz da = 8) (.need (D.HasCells da z1 0 [FT.int .i64, FT.int .i64, FT.int .i64, FT.int .i64, FT.int .i64, FT.int .i64, FT.slc, FT.slc] ∧ D.sz da = 8)
 (.all fun hs => .br (decide (D.getInt da z1 3 < 0)) (.need z7 (.need z7 (.need z7 (.need z7 (.need z7 (.need z7 (.need z7 (.need z7 (.need z7 z2))))))))) (.br (decide z5) (.need z3 (.need z3 (.need z3
 (.need z3 (.need z3 (.need z3 (.need z3 (.need z3 (.need z3 (.need (decide z5 = true) (.need (decide z5 = true) (.need (decide z5 = true) (.need (decide z5 = true) z2))))))))))))) (.br (decide (D.getInt da z1 2 < 0))
 (.need z3 (.need z3 (.need z3 (.need z3 (.need z3 (.need z3 (.need z3 (.need z3 (.need z3 (.need (decide z5 = false) (.need (decide z5 = false) (.need (decide z5 = false) (.need (decide z5 = false) (.need z8
 (.need z8 (.need z8 (.need z8 (.need z8 (.need z8 (.need z8 (.need z8 (.need z8 z2)))))))))))))))))))))) (.need z3 (.need z3 (.need z3 (.need z3 (.need z3 (.need z3 (.need z3 (.need z3 (.need z3 (.need
 (decide z5 = false) (.need (decide z5 = false) (.need (decide z5 = false) (.need (decide z5 = false) (.need z6 (.need z6 (.need z6 (.need z6 (.need z6 (.need z6 (.need z6 (.need z6 (.need z6 (.br (decide
 (D.getInt da z1 2 ≥ (↑(D.len dl) : Int))) z2 (.all fun hs => .need (0 ≤ D.getInt da z1 2 ∧ D.getInt da z1 2 < (↑(D.len dl) : Int) ∧ D.sz dl = 3) (.need (D.HasCells dl z12 0 [FT.int .i64, FT.int .i64, FT.int .i64] ∧ D.sz dl = 3)
 (.need (0 ≤ D.getInt da z1 3 ∧ D.getInt da z1 3 < (↑(D.len dr) : Int) ∧ D.sz dr = 9) (.need (D.HasCell dr (Int.toNat (D.getInt da z1 3)) 0 (FT.int .i64) ∧ D.sz dr = 9) (.need (0 ≤ D.getInt da z1 2 ∧ D.getInt da z1 2 <
 (↑(D.len dl) : Int) ∧ D.sz dl = 3) (.need (Int.toNat (D.getInt da z1 2) < D.len dl ∧ 3 ≤ D.sz dl ∧ D.sz dl = 3) (.leaf (Conf.mk z11 [] [(0, OBlk.arr 33 (D.setCells dl z12 0 [D.int .i64 (Prod.fst z4), D.int .i64
 (Prod.fst (Prod.snd z4)), D.int .i64 (Prod.snd (Prod.snd z4))])), (1, OBlk.arr 60 dr), (2, OBlk.arr 52 da), (100000, OBlk.cells 42 z10), (100001, OBlk.mapD .i64 false [FT.int .i64] mp), (100002, OBlk.cells 28 [.int .i64 k, .int .i64 si, .int .i64 ww])])))))))))))))))))))))))))))))))))))))) := by
 intros; kernel_rfl

theorem st5_in : 
 let z3 := (IntKind.wrap .i64 (Int.tmod si 3 + 3))
 let z1 := (Int.tmod z3 3)
 let z2 := (D.getInt dl (Int.toNat z1) 1)
 let z4 : List SV := [.int .i64 now, .int .i64 term, .int .i64 margin, .int .i64 we, .int .i64 wh, .int .i64 wu, .vec 0, .vec 1, .vec 2, .int .i64 fe, .int .i64 fo, .lb false]
 let z5 : Prop := (decide (fo = Int.tmod z3 3) = false)
 let z6 := (cAt Try.prog 5 [1, 1, 1, 0, 1, 0, 1, 1, 1, 1, 1, 1, 1, 1, 1, 1, 1, 0, 1])
 let z7 : Prop := (decide (fo = Int.tmod z3 3) = true)
 let z8 : List SV := [.int .i64 k, .int .i64 si, .int .i64 ww]
 let z9 := (cAt Try.prog 5 [1, 1, 1, 1])
 execRX Try.prog ctS [] [] 900 (Conf.mk (SFrm.mk 5 none none [Item.code (cAt Try.prog 5 [1, 1, 1, 0, 1, 0, 1, 1, 1, 1, 1, 1, 1, 1, 1, 1, 1, 0, 0]), Item.code (cAt Try.prog 5 [1, 1, 1, 0, 1, 0, 1, 1, 1, 1, 1, 1, 1, 1, 1, 1, 1, 0, 1]), Item.inBlock 0, Item.code (cAt Try.prog 5 [1, 1, 1, 1])] (mkJ 0 [(0, .ptr 100000 0), (5, .int .i64 (Int.tmod (IntKind.wrap .i64 (Int.tmod si 3 + 3)) 3))] 0 161)) [] [(1, OBlk.arr 33 dl), (2, OBlk.arr 60 dr), (3, OBlk.arr 52 da), (100000, OBlk.cells 42 [.int .i64 now, .int .i64 term, .int .i64 margin, .int .i64 we, .int .i64 wh, .int .i64 wu, .vec 1, .vec 2, .vec 3, .int .i64 fe, .int .i64 fo, .lb false]), (100001, OBlk.mapD .i64 false [FT.int .i64] mp), (100002, OBlk.cells 28 [.int .i64 k, .int .i64 si, .int .i64 ww])]) =
 Tree.need (0 ≤ Int.tmod z3 3 ∧ Int.tmod z3 3 < (↑(D.len dl) : Int) ∧ D.sz dl = 3) (.need (D.HasCells dl (Int.toNat z1) 0 [FT.int .i64, FT.int .i64, FT.int .i64] ∧ D.sz dl = 3) (.all fun hs => .br (decide
 (FormedP (D.getInt dl (Int.toNat z1) 0, D.getInt dl (Int.toNat z1) 1, D.getInt dl (Int.toNat z1) 2) ∧ now < D.getInt dl (Int.toNat z1) 2)) (.all fun hs => .br (decide (raiseI (fe, fo, false) z2 z1 = 0))
 (.all fun hs => .leaf (Conf.mk (SFrm.mk 5 none none [Item.code z6, Item.inBlock 0, Item.code z9] (mkJ 0 [(4, .bool (decide (admitI (zi (raiseI (fe, fo, false) z2 z1 = 0) z2, zi (raiseI (fe, fo, false) z2 z1 = 0) z1, false) z2 z1 = 0)))] 0 161)) [] [(0, OBlk.arr 33 dl),
 (1, OBlk.arr 60 dr), (2, OBlk.arr 52 da), (100000, OBlk.cells 42 [.int .i64 now, .int .i64 term, .int .i64 margin, .int .i64 we, .int .i64 wh, .int .i64 wu, .vec 0, .vec 1, .vec 2, .int .i64 (zi (raiseI
 (fe, fo, false) z2 z1 = 0) z2), .int .i64 (zi (raiseI (fe, fo, false) z2 z1 = 0) z1), .lb false]), (100001, OBlk.mapD .i64 false [FT.int .i64] mp), (100002, OBlk.cells 28 z8)])) (.all fun hs => .leaf (Conf.mk
 (SFrm.mk 5 none none [Item.code z6, Item.inBlock 0, Item.code z9] (mkJ 0 [(4, .bool (decide (admitI (fe, fo, false) z2 z1 = 0)))] 0 161)) [] [(0, OBlk.arr 33 dl), (1, OBlk.arr 60 dr), (2, OBlk.arr 52 da),
 (100000, OBlk.cells 42 z4), (100001, OBlk.mapD .i64 false [FT.int .i64] mp), (100002, OBlk.cells 28 z8)]))) (.all fun hs => .br (admitI (fe, fo, false) z2 z1 != 0) (.need ((admitI (fe, fo, false) z2 z1 != 0) = true)
 (.need ((admitI (fe, fo, false) z2 z1 != 0) = true) (.need ((admitI (fe, fo, false) z2 z1 != 0) = true) (.need ((admitI (fe, fo, false) z2 z1 != 0) = true) (.need ((admitI (fe, fo, false) z2 z1 != 0) = true)
 (.need ((admitI (fe, fo, false) z2 z1 != 0) = true) (.need ((admitI (fe, fo, false) z2 z1 != 0) = true) (.need ((admitI (fe, fo, false) z2 z1 != 0) = true) (.need ((admitI (fe, fo, false) z2 z1 != 0) = true)
 (.need ((admitI (fe, fo, false) z2 z1 != 0) = true) (.leaf (Conf.mk (SFrm.mk 5 none none [Item.code z6, Item.inBlock 0, Item.code z9] (mkJ 0 [(4, .lb true)] 0 161)) [] [(0, OBlk.arr 33 dl), (1, OBlk.arr 60 dr),
 (2, OBlk.arr 52 da), (100000, OBlk.cells 42 z4), (100001, OBlk.mapD .i64 false [FT.int .i64] mp), (100002, OBlk.cells 28 z8)])))))))))))) (.br (decide (fo = Int.tmod z3 3)) (.need ((admitI (fe, fo, false) z2 z1 != 0) = false)
 (.need ((admitI (fe, fo, false) z2 z1 != 0) = false) (.need ((admitI (fe, fo, false) z2 z1 != 0) = false) (.need ((admitI (fe, fo, false) z2 z1 != 0) = false) (.need ((admitI (fe, fo, false) z2 z1 != 0) = false)
 (.need ((admitI (fe, fo, false) z2 z1 != 0) = false) (.need ((admitI (fe, fo, false) z2 z1 != 0) = false) (.need ((admitI (fe, fo, false) z2 z1 != 0) = false) (.need z7 (.need z7 (.need z7 (.need z7 (.need z7
 (.need z7 (.need z7 (.need z7 (.need ((admitI (fe, fo, false) z2 z1 != 0) = false) (.need z7 (.need ((admitI (fe, fo, false) z2 z1 != 0) = false) (.leaf (Conf.mk (SFrm.mk 5 none none [Item.code z6, Item.inBlock 0, Item.code z9]
 (mkJ 0 [(4, .bool (decide (fe = D.getInt dl (Int.toNat z1) 1)))] 0 161)) [] [(0, OBlk.arr 33 dl), (1, OBlk.arr 60 dr), (2, OBlk.arr 52 da), (100000, OBlk.cells 42 z4), (100001, OBlk.mapD .i64 false [FT.int .i64] mp),
 (100002, OBlk.cells 28 z8)]))))))))))))))))))))) (.need ((admitI (fe, fo, false) z2 z1 != 0) = false) (.need ((admitI (fe, fo, false) z2 z1 != 0) = false) (.need ((admitI (fe, fo, false) z2 z1 != 0) = false)
 (.need ((admitI (fe, fo, false) z2 z1 != 0) = false) (.need ((admitI (fe, fo, false) z2 z1 != 0) = false) (.need ((admitI (fe, fo, false) z2 z1 != 0) = false) (.need ((admitI (fe, fo, false) z2 z1 != 0) = false)
 (.need ((admitI (fe, fo, false) z2 z1 != 0) = false) (.need z5 (.need z5 (.need z5 (.need z5 (.need z5 (.need z5 (.need z5 (.need z5 (.need ((admitI (fe, fo, false) z2 z1 != 0) = false) (.need z5 (.need
 ((admitI (fe, fo, false) z2 z1 != 0) = false) (.leaf (Conf.mk (SFrm.mk 5 none none [Item.code z6, Item.inBlock 0, Item.code z9] (mkJ 0 [(4, .lb false)] 0 161)) [] [(0, OBlk.arr 33 dl), (1, OBlk.arr 60 dr),
 (2, OBlk.arr 52 da), (100000, OBlk.cells 42 z4), (100001, OBlk.mapD .i64 false [FT.int .i64] mp), (100002, OBlk.cells 28 z8)]))))))))))))))))))))))))) := by
 intros; kernel_rfl

theorem st6_in : execRX Try.prog ctS [] [] 900 (Conf.mk (SFrm.mk 5 none none [Item.code (cAt Try.prog 5 [1, 1, 1, 0, 1, 0, 1, 1, 1, 1, 1, 1, 1, 1, 1, 1, 1, 1]), Item.inBlock 0, Item.code (cAt Try.prog 5 [1, 1, 1, 1])] (mkJ 0 [(0, .ptr 100000 0), (3, .ptr 1 0)] 0 161)) [] [(1, OBlk.cells 28 [.int .i64 k, .int .i64 si, .int .i64 ww]), (2, OBlk.arr 33 dl), (3, OBlk.arr 60 dr), (4, OBlk.arr 52 da), (100000, OBlk.cells 42 [.int .i64 now, .int .i64 term, .int .i64 margin, .int .i64 we, .int .i64 wh, .int .i64 wu, .vec 2, .vec 3, .vec 4, .int .i64 fe, .int .i64 fo, .lb false]), (100001, OBlk.mapD .i64 false [FT.int .i64] mp), (100002, OBlk.cells 28 [.int .i64 k, .int .i64 si, .int .i64 ww])]) =
 Tree.all fun hs =>
 .need ((7 : Int) ≠ 0)
 (.need ((7 : Int) ≠ 0)
 (.leaf
 (Conf.mk
 (SFrm.mk 5 none none [Item.code (cAt Try.prog 5 [1, 1, 1, 0, 1, 0, 1, 1, 1, 1, 1, 1, 1, 1, 1, 1, 1, 0, 1])]
 (mkJ 0 [(4, .lb true)] 0 161))
 []
 [(0, OBlk.arr 33 dl), (1, OBlk.arr 60 dr), (2, OBlk.arr 52 da),
 (100000,
 OBlk.cells 42
 [.int .i64
 (IntKind.wrap .i64 (now + Int.tmod (IntKind.wrap .i64 (Int.tmod ww 7 + 7)) 7)),
 .int .i64 term, .int .i64 margin, .int .i64 we, .int .i64 wh,
 .int .i64 wu, .vec 0, .vec 1, .vec 2, .int .i64 fe, .int .i64 fo,
 .lb false]),
 (100001, OBlk.mapD .i64 false [FT.int .i64] mp),
 (100002, OBlk.cells 28 [.int .i64 k, .int .i64 si, .int .i64 ww])]))) := by kernel_rfl

end
end Go.Proofs.Ytanpcdcgkhbomaa
end
section
open Go Go.Proofs Sx
namespace Sx
theorem tmod_bd (a : Int) {n : Int} (h : 0 < n) : -n < Int.tmod a n ∧ Int.tmod a n < n := ⟨Int.lt_tmod_of_pos _ h, Int.tmod_lt_of_pos _ h⟩
theorem idx3_bd (a : Int) : ∃ i : Nat, Int.tmod (IntKind.wrap IntKind.i64 (Int.tmod a 3 + 3)) 3 = (i : Int) ∧ i < 3 := by
  obtain ⟨h1, h2⟩ := tmod_bd a (n := 3) (by decide)
  rw [wrap64J (by omega) (by omega)]
  obtain ⟨h3, h4⟩ := tmod_bd (Int.tmod a 3 + 3) (n := 3) (by decide)
  have h5 : 0 ≤ Int.tmod (Int.tmod a 3 + 3) 3 := Int.tmod_nonneg _ (by omega)
  exact ⟨(Int.tmod (Int.tmod a 3 + 3) 3).toNat, by omega, by omega⟩
theorem idx7_bd (a : Int) : 0 ≤ Int.tmod (IntKind.wrap IntKind.i64 (Int.tmod a 7 + 7)) 7 ∧ Int.tmod (IntKind.wrap IntKind.i64 (Int.tmod a 7 + 7)) 7 ≤ 6 := by
  obtain ⟨h1, h2⟩ := tmod_bd a (n := 7) (by decide)
  rw [wrap64J (by omega) (by omega)]
  obtain ⟨h3, h4⟩ := tmod_bd (Int.tmod a 7 + 7) (n := 7) (by decide)
  exact ⟨Int.tmod_nonneg _ (by omega), by omega⟩
theorem pick_bd (a : Int) {n : Nat} (h : 0 < n) (hn : n ≤ 1000) : ∃ j : Nat, IntKind.wrap IntKind.i64 (IntKind.wrap IntKind.i64 ((n : Int) - 1) - Int.tmod (IntKind.wrap IntKind.i64 (Int.tmod a (n : Int) + (n : Int))) (n : Int)) = (j : Int) ∧ j < n := by
  obtain ⟨h1, h2⟩ := tmod_bd a (n := (n : Int)) (by omega)
  rw [wrap64J (n := (n : Int) - 1) (by omega) (by omega), wrap64J (n := Int.tmod a (n : Int) + (n : Int)) (by omega) (by omega)]
  obtain ⟨h3, h4⟩ := tmod_bd (Int.tmod a (n : Int) + (n : Int)) (n := (n : Int)) (by omega)
  have h5 : 0 ≤ Int.tmod (Int.tmod a (n : Int) + (n : Int)) (n : Int) := Int.tmod_nonneg _ (by omega)
  rw [wrap64J (by omega) (by omega)]
  exact ⟨((n : Int) - 1 - Int.tmod (Int.tmod a (n : Int) + (n : Int)) (n : Int)).toNat, by omega, by omega⟩
theorem LzW.send {dl dr da : D} {s : Lz} (h : LzW dl dr da s) (hl : s.rq.length ≤ 100) (h1 h2 : Hd) (k f t n v e : Int) :
    (D.sz dr = 9 ∧ D.Fits (D.slc h1 9 [[D.int IntKind.i64 s.now, D.int IntKind.i64 k, D.int IntKind.i64 f, D.int IntKind.i64 t, D.int IntKind.i64 n, D.int IntKind.i64 v, D.int IntKind.i64 e, D.slc none 0 [], D.slc none 0 []]]) 9 ∧
      (s.rq.length + D.len (D.slc h1 9 [[D.int IntKind.i64 s.now, D.int IntKind.i64 k, D.int IntKind.i64 f, D.int IntKind.i64 t, D.int IntKind.i64 n, D.int IntKind.i64 v, D.int IntKind.i64 e, D.slc none 0 [], D.slc none 0 []]])) * 104 ≤ 140737488355328 ∧
      s.rq.length + D.len (D.slc h1 9 [[D.int IntKind.i64 s.now, D.int IntKind.i64 k, D.int IntKind.i64 f, D.int IntKind.i64 t, D.int IntKind.i64 n, D.int IntKind.i64 v, D.int IntKind.i64 e, D.slc none 0 [], D.slc none 0 []]]) ≤ 9223372036854775807) ∧
    LzW dl (D.slc h2 9 (List.append (D.rows dr) (D.rows (D.slc h1 9 [[D.int IntKind.i64 s.now, D.int IntKind.i64 k, D.int IntKind.i64 f, D.int IntKind.i64 t, D.int IntKind.i64 n, D.int IntKind.i64 v, D.int IntKind.i64 e, D.slc none 0 [], D.slc none 0 []]])))) da
      { s with rq := s.rq ++ [⟨s.now, ⟨k, f, t, n, v, e, [], []⟩⟩] } := by
  have hlen : dr.len = s.rq.length := by rw [D.Is.length (α := Rq), h.r.2.2]
  refine ⟨⟨h.r.2.1, .inr rfl, by simp only [len_slc, List.length_cons, List.length_nil]; omega, by simp only [len_slc, List.length_cons, List.length_nil]; omega⟩, h.l, ?_, h.a⟩
  have ha := rows_app (rows_of h.r.1) (rq_row (s := s.now) (a := k) (b := f) (c := t) (d := n) (e := v) (f := e) rfl)
  rw [h.r.2.2] at ha
  obtain ⟨a1, a2⟩ := is_of (h := h2) (s := 9) rfl ha
  exact ⟨a1, rfl, a2⟩
theorem like_leng {α : Type} [Codec α] (d : D) (l : List α) : (d.like l).len = l.length := by
  rw [D.Is.length (α := α), D.like_to]
theorem handle_len (w : T3) (n t k f num e : Int) : (handleW w n t k f num e).2.length ≤ 1 := by
  have hr : (renewW w n t f num e).2.length ≤ 1 := by unfold renewW; split <;> simp
  unfold handleW
  repeat' split
  all_goals first | exact hr | simp
end Sx
namespace Go.Proofs.Ytanpcdcgkhbomaa
set_option maxRecDepth 100000
theorem ctSOk : Ctrs.Ok Try.prog ctS := by
  intro x hx
  simp only [ctS, List.mem_cons, List.not_mem_nil, or_false] at hx
  rcases hx with rfl | rfl | rfl | rfl | rfl | rfl | rfl | rfl
  · exact ctrOf_ok lawAsk
  · exact ctrOf_ok lawRenew
  · exact ctrOf_ok lawGive
  · exact ctrOf_ok lawHandle
  · exact ctrOf_ok lawLearn
  · exact ctrOf_ok lawHolds
  · exact ctrOf_ok lawRaise
  · exact ctrOf_ok lawAdmit
def LzMem (mp : D) (k si ww : Int) (s : Lz) (mm : Mem) : Prop := ∃ dl dr da : D, LzW dl dr da s ∧ mm = lzM dl dr da mp s.now s.term s.margin s.we s.wh s.wu s.fe s.fo k si ww
def StepZ (mp : D) (s : Lz) (t : Nat) (k si ww : Int) (i : Nat) (mm : Mem) : Prop := ∃ (s' : Lz) (S' : Int), FInv s' S' (t + 1) ∧ LzMem mp k si ww s' mm ∧ ((s'.fe = s.fe ∧ s'.fo = s.fo) ∨ s.fe < s'.fe) ∧
  (k = 5 → ∀ l, s'.ls[i]? = some l → s'.now < l.c → s'.fe = l.b ∧ s'.fo = i)
theorem retZ {w0 : World} {H : HV} {f : Nat → Nat} {Ψ : Mem → Prop} {aw : Option Tmp} {k : List Item} {tmps : List SV} {mem : Mem} {l : List SV} (m' : Mem) (h : Ψ m')
    (hres : resS Try.prog mem tmps (Try.f5).results.toList = some l := by kernel_rfl) (ht : ∀ E, (one? l).den E = .bool true := by intro _; rfl) (hm : (moveM mem (mvOf 100000 [6, 7, 8] mem)).map (pickK [100000, 0, 1, 2, 100001, 100002]) = some m' := by kernel_rfl)
    (hjm : m'.all (fun x => !x.2.jk 0) = true := by kernel_rfl) : (Tree.leaf ⟨⟨5, none, aw, .code .ret :: k, tmps⟩, [], mem⟩).holds Try.prog (@Ctx.mk w0 H (pinX f)) (RetP w0 H f fun v m => v = .lb true ∧ Ψ m) :=
  ret_sys 100000 [6, 7, 8] m' [100000, 0, 1, 2, 100001, 100002] (fd := Try.f5) (by kernel_rfl) hres ht hm (by decide) hjm h
theorem st0_law {dl dr da mp : D} {s : Lz} {S : Int} {t : Nat} (h : FInv s S t) (ht : t ≤ 60) (hw : LzW dl dr da s) (k si ww : Int) {i : Nat} (hi : Int.tmod (IntKind.wrap IntKind.i64 (Int.tmod si 3 + 3)) 3 = (i : Int)) (hi3 : i < 3) (hk5 : ¬ k = 5) (w0 : World) (H : HV) (fp : Nat → Nat) :
    Tree.holds Try.prog (@Ctx.mk w0 H (pinX fp)) (RetP w0 H fp fun v mm => v = .lb true ∧ StepZ mp s t k si ww i mm) (Tree.leaf (Conf.mk (SFrm.mk 5 none none [Item.code (cAt Try.prog 5 [1, 1, 1, 0, 1, 0, 1, 0, 0]), Item.code (cAt Try.prog 5 [1, 1, 1, 0, 1, 0, 1, 0, 1]), Item.inBlock 0, Item.code (cAt Try.prog 5 [1, 1, 1, 1])] (mkJ 0 [(0, SV.ptr 100000 0), (3, SV.ptr 1 0), (6, SV.ptr 2 0)] 0 161)) [] [(1, OBlk.cells 28 [SV.int IntKind.i64 k, SV.int IntKind.i64 si, SV.int IntKind.i64 ww]), (2, OBlk.cells 33 [SV.int IntKind.i64 (D.getInt dl (Int.toNat (Int.tmod (IntKind.wrap IntKind.i64 (Int.tmod si 3 + 3)) 3)) 0), SV.int IntKind.i64 (D.getInt dl (Int.toNat (Int.tmod (IntKind.wrap IntKind.i64 (Int.tmod si 3 + 3)) 3)) 1), SV.int IntKind.i64 (D.getInt dl (Int.toNat (Int.tmod (IntKind.wrap IntKind.i64 (Int.tmod si 3 + 3)) 3)) 2)]), (3, OBlk.arr 33 dl), (4, OBlk.arr 60 dr), (5, OBlk.arr 52 da), (100000, OBlk.cells 42 [SV.int IntKind.i64 s.now, SV.int IntKind.i64 s.term, SV.int IntKind.i64 s.margin, SV.int IntKind.i64 s.we, SV.int IntKind.i64 s.wh, SV.int IntKind.i64 s.wu, SV.vec 3, SV.vec 4, SV.vec 5, SV.int IntKind.i64 s.fe, SV.int IntKind.i64 s.fo, SV.lb false]), (100001, OBlk.mapD IntKind.i64 false [FT.int IntKind.i64] mp), (100002, OBlk.cells 28 [SV.int IntKind.i64 k, SV.int IntKind.i64 si, SV.int IntKind.i64 ww])])) := by
  have hil : i < s.ls.length := by rw [h.len]; exact hi3
  have hil' : i < (dl.to I3).length := by rw [hw.l.2.2]; exact hil
  obtain ⟨l, hl⟩ : ∃ l, s.ls[i]? = some l := ⟨_, List.getElem?_eq_getElem hil⟩
  obtain ⟨c0, c1, c2, c3⟩ := i3_cell hw.l.1 hil'
  have hle : (dl.to I3)[i] = l := by apply Option.some.inj; rw [← List.getElem?_eq_getElem hil', hw.l.2.2]; exact hl
  rw [hle] at c1 c2 c3
  have hrt := h.rql
  have hat := h.anl
  have hr : s.rq.length ≤ 60 := by have := h.rql; omega
  have hdr : dr.len = s.rq.length := by rw [D.Is.length (α := Rq), hw.r.2.2]
  have hda : da.len = s.an.length := by rw [D.Is.length (α := Msg), hw.a.2.2]
  have hdl : dl.len = 3 := by rw [D.Is.length (α := I3), hw.l.2.2]; exact h.len
  have hs := h.site i l hl
  have hf := h.formed hl
  have h1 := h.wk ht
  have he1 : (((t + 1 : Nat)) : Int) = (t : Int) + 1 := by omega
  refine execRX_sound ctSOk [] [] 900 _ ?_
  rw [st0_in]
  obtain ⟨q, hq, hq3⟩ := idx3_bd ww
  simp only [hi, hq, Int.toNat_natCast, c1, c2, c3]
  have hwr : IntKind.i64.wrap ((if l.b > 1 then l.b else 1) + (q : Int)) = (if l.b > 1 then l.b else 1) + (q : Int) := by
    have := h.small
    rw [wrap64J] <;> split <;> omega
  rw [hwr]
  have hb : 0 ≤ (if l.b > 1 then l.b else 1) + (q : Int) ∧ (if l.b > 1 then l.b else 1) + (q : Int) ≤ 3 * ((t + 1 : Nat) : Int) := by split <;> omega
  generalize (if l.b > 1 then l.b else 1) + (q : Int) = e at hb ⊢
  refine ⟨by decide, by decide, fun hs1 => ⟨fun hc => fun hs2 => ?_, fun hc => ?_⟩⟩
  · have hz : askI (l.a, l.b, l.c) e = 0 := of_decide_eq_true hc
    simp only [hz, zi, if_true, hdr]
    obtain ⟨n1, n2⟩ := hw.send (by omega) (D.hd (hs2 11 0)) (D.hd (hs2 12 0)) 15 l.a 4 (s.rq.length : Int) 0 e
    refine ⟨n1, ?_⟩
    exact retZ (l := [.lb true]) (lzM dl _ da mp s.now s.term s.margin s.we s.wh s.wu s.fe s.fo k si ww) ⟨_, S, h1.send (by omega) rfl ⟨by simp only; omega, by simp only; omega⟩ hb (fun hk => by simp at hk), ⟨_, _, _, n2, rfl⟩, .inl ⟨rfl, rfl⟩, fun hk => absurd hk hk5⟩
  · exact retZ (l := [.lb true]) (lzM dl dr da mp s.now s.term s.margin s.we s.wh s.wu s.fe s.fo k si ww) ⟨s, S, h1, ⟨_, _, _, hw, rfl⟩, .inl ⟨rfl, rfl⟩, fun hk => absurd hk hk5⟩
theorem st1_law {dl dr da mp : D} {s : Lz} {S : Int} {t : Nat} (h : FInv s S t) (ht : t ≤ 60) (hw : LzW dl dr da s) (k si ww : Int) {i : Nat} (hi : Int.tmod (IntKind.wrap IntKind.i64 (Int.tmod si 3 + 3)) 3 = (i : Int)) (hi3 : i < 3) (hk5 : ¬ k = 5) (w0 : World) (H : HV) (fp : Nat → Nat) :
    Tree.holds Try.prog (@Ctx.mk w0 H (pinX fp)) (RetP w0 H fp fun v mm => v = .lb true ∧ StepZ mp s t k si ww i mm) (Tree.leaf (Conf.mk (SFrm.mk 5 none none [Item.code (cAt Try.prog 5 [1, 1, 1, 0, 1, 0, 1, 1, 1, 0, 0]), Item.code (cAt Try.prog 5 [1, 1, 1, 0, 1, 0, 1, 1, 1, 0, 1]), Item.inBlock 0, Item.code (cAt Try.prog 5 [1, 1, 1, 1])] (mkJ 0 [(0, SV.ptr 100000 0), (6, SV.ptr 1 0)] 0 161)) [] [(1, OBlk.cells 33 [SV.int IntKind.i64 (D.getInt dl (Int.toNat (Int.tmod (IntKind.wrap IntKind.i64 (Int.tmod si 3 + 3)) 3)) 0), SV.int IntKind.i64 (D.getInt dl (Int.toNat (Int.tmod (IntKind.wrap IntKind.i64 (Int.tmod si 3 + 3)) 3)) 1), SV.int IntKind.i64 (D.getInt dl (Int.toNat (Int.tmod (IntKind.wrap IntKind.i64 (Int.tmod si 3 + 3)) 3)) 2)]), (2, OBlk.arr 33 dl), (3, OBlk.arr 60 dr), (4, OBlk.arr 52 da), (100000, OBlk.cells 42 [SV.int IntKind.i64 s.now, SV.int IntKind.i64 s.term, SV.int IntKind.i64 s.margin, SV.int IntKind.i64 s.we, SV.int IntKind.i64 s.wh, SV.int IntKind.i64 s.wu, SV.vec 2, SV.vec 3, SV.vec 4, SV.int IntKind.i64 s.fe, SV.int IntKind.i64 s.fo, SV.lb false]), (100001, OBlk.mapD IntKind.i64 false [FT.int IntKind.i64] mp), (100002, OBlk.cells 28 [SV.int IntKind.i64 k, SV.int IntKind.i64 si, SV.int IntKind.i64 ww])])) := by
  have hil : i < s.ls.length := by rw [h.len]; exact hi3
  have hil' : i < (dl.to I3).length := by rw [hw.l.2.2]; exact hil
  obtain ⟨l, hl⟩ : ∃ l, s.ls[i]? = some l := ⟨_, List.getElem?_eq_getElem hil⟩
  obtain ⟨c0, c1, c2, c3⟩ := i3_cell hw.l.1 hil'
  have hle : (dl.to I3)[i] = l := by apply Option.some.inj; rw [← List.getElem?_eq_getElem hil', hw.l.2.2]; exact hl
  rw [hle] at c1 c2 c3
  have hrt := h.rql
  have hat := h.anl
  have hr : s.rq.length ≤ 60 := by have := h.rql; omega
  have hdr : dr.len = s.rq.length := by rw [D.Is.length (α := Rq), hw.r.2.2]
  have hda : da.len = s.an.length := by rw [D.Is.length (α := Msg), hw.a.2.2]
  have hdl : dl.len = 3 := by rw [D.Is.length (α := I3), hw.l.2.2]; exact h.len
  have hs := h.site i l hl
  have hf := h.formed hl
  have h1 := h.wk ht
  have he1 : (((t + 1 : Nat)) : Int) = (t : Int) + 1 := by omega
  refine execRX_sound ctSOk [] [] 900 _ ?_
  rw [st1_in]
  simp only [hi, Int.toNat_natCast, c1, c2, c3]
  refine fun hs1 => ⟨fun hc => fun hs2 => ?_, fun hc => ?_⟩
  · have hz : renewI (l.a, l.b, l.c) = 0 := of_decide_eq_true hc
    simp only [hz, zi, if_true, hdr]
    obtain ⟨n1, n2⟩ := hw.send (by omega) (D.hd (hs2 11 0)) (D.hd (hs2 12 0)) 17 l.a 4 (s.rq.length : Int) 0 l.b
    refine ⟨n1, ?_⟩
    exact retZ (l := [.lb true]) (lzM dl _ da mp s.now s.term s.margin s.we s.wh s.wu s.fe s.fo k si ww) ⟨_, S, h1.send (by omega) rfl ⟨by simp only; omega, by simp only; omega⟩ ⟨by simp only; omega, by simp only; omega⟩ (fun hk => by simp at hk), ⟨_, _, _, n2, rfl⟩, .inl ⟨rfl, rfl⟩, fun hk => absurd hk hk5⟩
  · exact retZ (l := [.lb true]) (lzM dl dr da mp s.now s.term s.margin s.we s.wh s.wu s.fe s.fo k si ww) ⟨s, S, h1, ⟨_, _, _, hw, rfl⟩, .inl ⟨rfl, rfl⟩, fun hk => absurd hk hk5⟩
theorem st2_law {dl dr da mp : D} {s : Lz} {S : Int} {t : Nat} (h : FInv s S t) (ht : t ≤ 60) (hw : LzW dl dr da s) (k si ww : Int) {i : Nat} (hi : Int.tmod (IntKind.wrap IntKind.i64 (Int.tmod si 3 + 3)) 3 = (i : Int)) (hi3 : i < 3) (hk5 : ¬ k = 5) (w0 : World) (H : HV) (fp : Nat → Nat) :
    Tree.holds Try.prog (@Ctx.mk w0 H (pinX fp)) (RetP w0 H fp fun v mm => v = .lb true ∧ StepZ mp s t k si ww i mm) (Tree.leaf (Conf.mk (SFrm.mk 5 none none [Item.code (cAt Try.prog 5 [1, 1, 1, 0, 1, 0, 1, 1, 1, 1, 1, 0, 0]), Item.code (cAt Try.prog 5 [1, 1, 1, 0, 1, 0, 1, 1, 1, 1, 1, 0, 1]), Item.inBlock 0, Item.code (cAt Try.prog 5 [1, 1, 1, 1])] (mkJ 0 [(0, SV.ptr 100000 0), (5, SV.int IntKind.i64 (Int.tmod (IntKind.wrap IntKind.i64 (Int.tmod si 3 + 3)) 3)), (6, SV.ptr 1 0)] 0 161)) [] [(1, OBlk.cells 33 [SV.int IntKind.i64 (D.getInt dl (Int.toNat (Int.tmod (IntKind.wrap IntKind.i64 (Int.tmod si 3 + 3)) 3)) 0), SV.int IntKind.i64 (D.getInt dl (Int.toNat (Int.tmod (IntKind.wrap IntKind.i64 (Int.tmod si 3 + 3)) 3)) 1), SV.int IntKind.i64 (D.getInt dl (Int.toNat (Int.tmod (IntKind.wrap IntKind.i64 (Int.tmod si 3 + 3)) 3)) 2)]), (2, OBlk.arr 33 dl), (3, OBlk.arr 60 dr), (4, OBlk.arr 52 da), (100000, OBlk.cells 42 [SV.int IntKind.i64 s.now, SV.int IntKind.i64 s.term, SV.int IntKind.i64 s.margin, SV.int IntKind.i64 s.we, SV.int IntKind.i64 s.wh, SV.int IntKind.i64 s.wu, SV.vec 2, SV.vec 3, SV.vec 4, SV.int IntKind.i64 s.fe, SV.int IntKind.i64 s.fo, SV.lb false]), (100001, OBlk.mapD IntKind.i64 false [FT.int IntKind.i64] mp), (100002, OBlk.cells 28 [SV.int IntKind.i64 k, SV.int IntKind.i64 si, SV.int IntKind.i64 ww])])) := by
  have hil : i < s.ls.length := by rw [h.len]; exact hi3
  have hil' : i < (dl.to I3).length := by rw [hw.l.2.2]; exact hil
  obtain ⟨l, hl⟩ : ∃ l, s.ls[i]? = some l := ⟨_, List.getElem?_eq_getElem hil⟩
  obtain ⟨c0, c1, c2, c3⟩ := i3_cell hw.l.1 hil'
  have hle : (dl.to I3)[i] = l := by apply Option.some.inj; rw [← List.getElem?_eq_getElem hil', hw.l.2.2]; exact hl
  rw [hle] at c1 c2 c3
  have hrt := h.rql
  have hat := h.anl
  have hr : s.rq.length ≤ 60 := by have := h.rql; omega
  have hdr : dr.len = s.rq.length := by rw [D.Is.length (α := Rq), hw.r.2.2]
  have hda : da.len = s.an.length := by rw [D.Is.length (α := Msg), hw.a.2.2]
  have hdl : dl.len = 3 := by rw [D.Is.length (α := I3), hw.l.2.2]; exact h.len
  have hs := h.site i l hl
  have hf := h.formed hl
  have h1 := h.wk ht
  have he1 : (((t + 1 : Nat)) : Int) = (t : Int) + 1 := by omega
  refine execRX_sound ctSOk [] [] 900 _ ?_
  rw [st2_in]
  simp only [hi, Int.toNat_natCast, c1, c2, c3, zi, if_pos hf]
  have hg : giveL (l.a, l.b, l.c) = (l.a, l.b + 1, 0) := by
    unfold giveL; rw [if_pos hf]
    have : min (l.b + 1) 1073741824 = l.b + 1 := by have := h.small; omega
    simp only [this]
  simp only [hg, hdr]
  have hset := set_full (α := I3) hw.l.1 hil' (xs := [D.int IntKind.i64 l.a, D.int IntKind.i64 (l.b + 1), D.int IntKind.i64 0]) (x := ⟨l.a, l.b + 1, 0⟩) rfl ⟨_, _, _, rfl⟩ rfl
  have hw2 : LzW (D.setCells dl i 0 [D.int IntKind.i64 l.a, D.int IntKind.i64 (l.b + 1), D.int IntKind.i64 0]) dr da { s with ls := s.ls.set i ⟨l.a, l.b + 1, 0⟩ } :=
    ⟨⟨hset.1, hw.l.2.1, by rw [hset.2, hw.l.2.2]⟩, hw.r, hw.a⟩
  have h2 := h1.give hl (by omega)
  refine fun hs1 hs2 => ⟨⟨by omega, by omega, hw.l.2.1⟩, ⟨by omega, by rw [hw.l.2.1]; exact Nat.le_refl _, hw.l.2.1⟩, fun hs3 => ?_⟩
  obtain ⟨n1, n2⟩ := hw2.send (show s.rq.length ≤ 100 by omega) (D.hd (hs3 11 0)) (D.hd (hs3 12 0)) 18 l.a 4 (s.rq.length : Int) 0 l.b
  refine ⟨n1, ?_⟩
  have h3 := h2.send (m := ⟨18, l.a, 4, (s.rq.length : Int), 0, l.b, [], []⟩) (show s.rq.length + 1 ≤ t + 1 by have := h.rql; omega) rfl ⟨by simp only; omega, by simp only; omega⟩ ⟨by simp only; omega, by simp only; omega⟩ (fun _ l' hl' => by
    have e : l.a.toNat = i := by omega
    simp only [e, List.getElem?_set_self hil] at hl'
    cases hl'
    simp only; omega)
  exact retZ (l := [.lb true]) (lzM _ _ da mp s.now s.term s.margin s.we s.wh s.wu s.fe s.fo k si ww) ⟨_, S, h3, ⟨_, _, _, n2, rfl⟩, .inl ⟨rfl, rfl⟩, fun hk => absurd hk hk5⟩
theorem st3_law {dl dr da mp : D} {s : Lz} {S : Int} {t : Nat} (h : FInv s S t) (ht : t ≤ 60) (hw : LzW dl dr da s) (k si ww : Int) {i : Nat} (hi : Int.tmod (IntKind.wrap IntKind.i64 (Int.tmod si 3 + 3)) 3 = (i : Int)) (hi3 : i < 3) (hk5 : ¬ k = 5) (w0 : World) (H : HV) (fp : Nat → Nat) :
    Tree.holds Try.prog (@Ctx.mk w0 H (pinX fp)) (RetP w0 H fp fun v mm => v = .lb true ∧ StepZ mp s t k si ww i mm) (Tree.leaf (Conf.mk (SFrm.mk 5 none none [Item.code (cAt Try.prog 5 [1, 1, 1, 0, 1, 0, 1, 1, 1, 1, 1, 1, 1, 0, 0]), Item.code (cAt Try.prog 5 [1, 1, 1, 0, 1, 0, 1, 1, 1, 1, 1, 1, 1, 0, 1]), Item.inBlock 0, Item.code (cAt Try.prog 5 [1, 1, 1, 1])] (mkJ 0 [(0, SV.ptr 100000 0), (3, SV.ptr 1 0)] 0 161)) [] [(1, OBlk.cells 28 [SV.int IntKind.i64 k, SV.int IntKind.i64 si, SV.int IntKind.i64 ww]), (2, OBlk.arr 33 dl), (3, OBlk.arr 60 dr), (4, OBlk.arr 52 da), (100000, OBlk.cells 42 [SV.int IntKind.i64 s.now, SV.int IntKind.i64 s.term, SV.int IntKind.i64 s.margin, SV.int IntKind.i64 s.we, SV.int IntKind.i64 s.wh, SV.int IntKind.i64 s.wu, SV.vec 2, SV.vec 3, SV.vec 4, SV.int IntKind.i64 s.fe, SV.int IntKind.i64 s.fo, SV.lb false]), (100001, OBlk.mapD IntKind.i64 false [FT.int IntKind.i64] mp), (100002, OBlk.cells 28 [SV.int IntKind.i64 k, SV.int IntKind.i64 si, SV.int IntKind.i64 ww])])) := by
  have hil : i < s.ls.length := by rw [h.len]; exact hi3
  have hil' : i < (dl.to I3).length := by rw [hw.l.2.2]; exact hil
  obtain ⟨l, hl⟩ : ∃ l, s.ls[i]? = some l := ⟨_, List.getElem?_eq_getElem hil⟩
  obtain ⟨c0, c1, c2, c3⟩ := i3_cell hw.l.1 hil'
  have hle : (dl.to I3)[i] = l := by apply Option.some.inj; rw [← List.getElem?_eq_getElem hil', hw.l.2.2]; exact hl
  rw [hle] at c1 c2 c3
  have hrt := h.rql
  have hat := h.anl
  have hr : s.rq.length ≤ 60 := by have := h.rql; omega
  have hdr : dr.len = s.rq.length := by rw [D.Is.length (α := Rq), hw.r.2.2]
  have hda : da.len = s.an.length := by rw [D.Is.length (α := Msg), hw.a.2.2]
  have hdl : dl.len = 3 := by rw [D.Is.length (α := I3), hw.l.2.2]; exact h.len
  have hs := h.site i l hl
  have hf := h.formed hl
  have h1 := h.wk ht
  have he1 : (((t + 1 : Nat)) : Int) = (t : Int) + 1 := by omega
  refine execRX_sound ctSOk [] [] 900 _ ?_
  rw [st3_in]
  refine ⟨fun hc => ?_, fun hc => ?_⟩
  · have hpos : 0 < dr.len := by have := of_decide_eq_true hc; omega
    obtain ⟨j, hj, hjl⟩ := pick_bd ww hpos (by omega)
    have hjl' : j < (dr.to Rq).length := by rw [hw.r.2.2, ← hdr]; exact hjl
    obtain ⟨d0, d1, d2, d3, d4, d5⟩ := rq_cell hw.r.1 hjl'
    obtain ⟨r, hr'⟩ : ∃ r, s.rq[j]? = some r := ⟨_, List.getElem?_eq_getElem (by rw [← hdr]; exact hjl)⟩
    have hre : (dr.to Rq)[j] = r := by apply Option.some.inj; rw [← List.getElem?_eq_getElem hjl', hw.r.2.2]; exact hr'
    rw [hre] at d1 d2 d3 d4 d5
    simp only [hj, Int.toNat_natCast, d2, d3, d4, d5]
    obtain ⟨S', hI⟩ := h1.handle (show s.an.length + 1 ≤ t + 1 by omega) hr' rfl
    have hone : (handleW (s.we, s.wh, s.wu) s.now s.term r.m.kind r.m.frm r.m.number r.m.epoch).2.length ≤ 1 := handle_len ..
    generalize handleW (s.we, s.wh, s.wu) s.now s.term r.m.kind r.m.frm r.m.number r.m.epoch = p at hI hone ⊢
    refine fun hs1 => ⟨by omega, by omega, ⟨by omega, by omega, hw.r.2.1⟩, ⟨d0, hw.r.2.1⟩, fun hs2 hs3 => ⟨⟨hw.a.2.1, (D.like_is (α := Msg) _ _).fits, by simp only [like_leng]; omega, by simp only [like_leng]; omega⟩, ?_⟩⟩
    have ha := rows_app (rows_of hw.a.1) (rows_of (D.like_is (hs2 14 0) p.2))
    rw [D.like_to, hw.a.2.2] at ha
    obtain ⟨a1, a2⟩ := is_of (h := D.hd (hs3 8 0)) (s := 8) rfl ha
    exact retZ (l := [.lb true]) (lzM dl dr _ mp s.now s.term s.margin p.1.1 p.1.2.1 p.1.2.2 s.fe s.fo k si ww) ⟨_, S', hI, ⟨dl, dr, _, ⟨hw.l, hw.r, ⟨a1, rfl, a2⟩⟩, rfl⟩, .inl ⟨rfl, rfl⟩, fun hk => absurd hk hk5⟩
  · exact retZ (l := [.lb true]) (lzM dl dr da mp s.now s.term s.margin s.we s.wh s.wu s.fe s.fo k si ww) ⟨s, S, h1, ⟨_, _, _, hw, rfl⟩, .inl ⟨rfl, rfl⟩, fun hk => absurd hk hk5⟩
theorem st4_law {dl dr da mp : D} {s : Lz} {S : Int} {t : Nat} (h : FInv s S t) (ht : t ≤ 60) (hw : LzW dl dr da s) (k si ww : Int) {i : Nat} (hi : Int.tmod (IntKind.wrap IntKind.i64 (Int.tmod si 3 + 3)) 3 = (i : Int)) (hi3 : i < 3) (hk5 : ¬ k = 5) (w0 : World) (H : HV) (fp : Nat → Nat) :
    Tree.holds Try.prog (@Ctx.mk w0 H (pinX fp)) (RetP w0 H fp fun v mm => v = .lb true ∧ StepZ mp s t k si ww i mm) (Tree.leaf (Conf.mk (SFrm.mk 5 none none [Item.code (cAt Try.prog 5 [1, 1, 1, 0, 1, 0, 1, 1, 1, 1, 1, 1, 1, 1, 1, 0]), Item.inBlock 0, Item.code (cAt Try.prog 5 [1, 1, 1, 1])] (mkJ 0 [(0, SV.ptr 100000 0), (3, SV.ptr 1 0)] 0 161)) [] [(1, OBlk.cells 28 [SV.int IntKind.i64 k, SV.int IntKind.i64 si, SV.int IntKind.i64 ww]), (2, OBlk.arr 33 dl), (3, OBlk.arr 60 dr), (4, OBlk.arr 52 da), (100000, OBlk.cells 42 [SV.int IntKind.i64 s.now, SV.int IntKind.i64 s.term, SV.int IntKind.i64 s.margin, SV.int IntKind.i64 s.we, SV.int IntKind.i64 s.wh, SV.int IntKind.i64 s.wu, SV.vec 2, SV.vec 3, SV.vec 4, SV.int IntKind.i64 s.fe, SV.int IntKind.i64 s.fo, SV.lb false]), (100001, OBlk.mapD IntKind.i64 false [FT.int IntKind.i64] mp), (100002, OBlk.cells 28 [SV.int IntKind.i64 k, SV.int IntKind.i64 si, SV.int IntKind.i64 ww])])) := by
  have hil : i < s.ls.length := by rw [h.len]; exact hi3
  have hil' : i < (dl.to I3).length := by rw [hw.l.2.2]; exact hil
  obtain ⟨l, hl⟩ : ∃ l, s.ls[i]? = some l := ⟨_, List.getElem?_eq_getElem hil⟩
  obtain ⟨c0, c1, c2, c3⟩ := i3_cell hw.l.1 hil'
  have hle : (dl.to I3)[i] = l := by apply Option.some.inj; rw [← List.getElem?_eq_getElem hil', hw.l.2.2]; exact hl
  rw [hle] at c1 c2 c3
  have hrt := h.rql
  have hat := h.anl
  have hr : s.rq.length ≤ 60 := by have := h.rql; omega
  have hdr : dr.len = s.rq.length := by rw [D.Is.length (α := Rq), hw.r.2.2]
  have hda : da.len = s.an.length := by rw [D.Is.length (α := Msg), hw.a.2.2]
  have hdl : dl.len = 3 := by rw [D.Is.length (α := I3), hw.l.2.2]; exact h.len
  have hs := h.site i l hl
  have hf := h.formed hl
  have h1 := h.wk ht
  have he1 : (((t + 1 : Nat)) : Int) = (t : Int) + 1 := by omega
  refine execRX_sound ctSOk [] [] 900 _ ?_
  rw [st4_in]
  refine ⟨fun hc => ?_, fun hc => ?_⟩
  · exact retZ (l := [.lb true]) (lzM dl dr da mp s.now s.term s.margin s.we s.wh s.wu s.fe s.fo k si ww) ⟨s, S, h1, ⟨_, _, _, hw, rfl⟩, .inl ⟨rfl, rfl⟩, fun hk => absurd hk hk5⟩
  · have hpos : 0 < da.len := by have := of_decide_eq_false hc; omega
    obtain ⟨j, hj, hjl⟩ := pick_bd ww hpos (by omega)
    have hjl' : j < (da.to Msg).length := by rw [hw.a.2.2, ← hda]; exact hjl
    obtain ⟨d0, d1, d2, d3, d4, d5, d6, _⟩ := msg_cell hw.a.1 hjl'
    obtain ⟨m, hm'⟩ : ∃ m, s.an[j]? = some m := ⟨_, List.getElem?_eq_getElem (by rw [← hda]; exact hjl)⟩
    have hme : (da.to Msg)[j] = m := by apply Option.some.inj; rw [← List.getElem?_eq_getElem hjl', hw.a.2.2]; exact hm'
    rw [hme] at d1 d2 d3 d4 d5 d6
    simp only [hj, Int.toNat_natCast, d1, d3, d4, d5, d6]
    have hmem : m ∈ s.an := List.mem_of_getElem? hm'
    obtain ⟨m1, m2, m3, m4, m5, m6, m7⟩ := h.an m hmem
    have x1 : decide (m.number < 0) = false := decide_eq_false (by omega)
    have x2 : decide (m.number ≥ ((dr.len : Nat) : Int)) = false := decide_eq_false (by omega)
    have x3 : decide (m.to < 0) = false := decide_eq_false (by omega)
    have x4 : decide (m.to ≥ ((dl.len : Nat) : Int)) = false := decide_eq_false (by omega)
    have htl : m.to.toNat < s.ls.length := by rw [h.len]; omega
    have htl' : m.to.toNat < (dl.to I3).length := by rw [hw.l.2.2]; exact htl
    obtain ⟨l', hl'⟩ : ∃ l, s.ls[m.to.toNat]? = some l := ⟨_, List.getElem?_eq_getElem htl⟩
    obtain ⟨e0, e1, e2, e3⟩ := i3_cell hw.l.1 htl'
    have hle' : (dl.to I3)[m.to.toNat] = l' := by apply Option.some.inj; rw [← List.getElem?_eq_getElem htl', hw.l.2.2]; exact hl'
    rw [hle'] at e1 e2 e3
    have hnl' : m.number.toNat < (dr.to Rq).length := by rw [hw.r.2.2]; exact m2
    obtain ⟨f0, f1, _⟩ := rq_cell hw.r.1 hnl'
    obtain ⟨r, hr'⟩ : ∃ r, s.rq[m.number.toNat]? = some r := ⟨_, List.getElem?_eq_getElem m2⟩
    have hre : (dr.to Rq)[m.number.toNat] = r := by apply Option.some.inj; rw [← List.getElem?_eq_getElem hnl', hw.r.2.2]; exact hr'
    rw [hre] at f1
    simp only [x1, x2, x3, x4, e1, e2, e3, f1]
    have hI := h1.learn hmem hr' hl' rfl
    generalize learnL (l'.a, l'.b, l'.c) r.sent s.term s.margin m.kind m.to m.value m.epoch = p at hI ⊢
    have hset := set_full (α := I3) hw.l.1 htl' (xs := [D.int IntKind.i64 p.1, D.int IntKind.i64 p.2.1, D.int IntKind.i64 p.2.2]) (x := ⟨p.1, p.2.1, p.2.2⟩) rfl ⟨_, _, _, rfl⟩ rfl
    refine fun hs1 => ⟨by omega, by omega, ⟨by omega, by omega, hw.a.2.1⟩, ⟨d0, hw.a.2.1⟩, fun hs2 => ⟨fun hx => (nomatch hx), fun _ => ⟨fun hx => (nomatch hx), fun _ => ⟨fun hx => (nomatch hx), fun _ => ?_⟩⟩⟩⟩
    repeat first
      | refine ⟨True.intro, ?_⟩
      | fail
    refine ⟨fun hx => (nomatch hx), fun _ hs3 => ⟨⟨by omega, by omega, hw.l.2.1⟩, ⟨e0, hw.l.2.1⟩, ⟨by omega, by omega, hw.r.2.1⟩, ⟨f0.1, hw.r.2.1⟩, ⟨by omega, by omega, hw.l.2.1⟩, ⟨by omega, by rw [hw.l.2.1]; exact Nat.le_refl _, hw.l.2.1⟩, ?_⟩⟩
    exact retZ (l := [.lb true]) (lzM _ dr da mp s.now s.term s.margin s.we s.wh s.wu s.fe s.fo k si ww) ⟨_, S, hI, ⟨_, dr, da, ⟨⟨hset.1, hw.l.2.1, by rw [hset.2, hw.l.2.2]⟩, hw.r, hw.a⟩, rfl⟩, .inl ⟨rfl, rfl⟩, fun hk => absurd hk hk5⟩
theorem st5_law {dl dr da mp : D} {s : Lz} {S : Int} {t : Nat} (h : FInv s S t) (ht : t ≤ 60) (hw : LzW dl dr da s) (k si ww : Int) {i : Nat} (hi : Int.tmod (IntKind.wrap IntKind.i64 (Int.tmod si 3 + 3)) 3 = (i : Int)) (hi3 : i < 3) (w0 : World) (H : HV) (fp : Nat → Nat) :
    Tree.holds Try.prog (@Ctx.mk w0 H (pinX fp)) (RetP w0 H fp fun v mm => v = .lb true ∧ StepZ mp s t k si ww i mm) (Tree.leaf (Conf.mk (SFrm.mk 5 none none [Item.code (cAt Try.prog 5 [1, 1, 1, 0, 1, 0, 1, 1, 1, 1, 1, 1, 1, 1, 1, 1, 1, 0, 0]), Item.code (cAt Try.prog 5 [1, 1, 1, 0, 1, 0, 1, 1, 1, 1, 1, 1, 1, 1, 1, 1, 1, 0, 1]), Item.inBlock 0, Item.code (cAt Try.prog 5 [1, 1, 1, 1])] (mkJ 0 [(0, SV.ptr 100000 0), (5, SV.int IntKind.i64 (Int.tmod (IntKind.wrap IntKind.i64 (Int.tmod si 3 + 3)) 3))] 0 161)) [] [(1, OBlk.arr 33 dl), (2, OBlk.arr 60 dr), (3, OBlk.arr 52 da), (100000, OBlk.cells 42 [SV.int IntKind.i64 s.now, SV.int IntKind.i64 s.term, SV.int IntKind.i64 s.margin, SV.int IntKind.i64 s.we, SV.int IntKind.i64 s.wh, SV.int IntKind.i64 s.wu, SV.vec 1, SV.vec 2, SV.vec 3, SV.int IntKind.i64 s.fe, SV.int IntKind.i64 s.fo, SV.lb false]), (100001, OBlk.mapD IntKind.i64 false [FT.int IntKind.i64] mp), (100002, OBlk.cells 28 [SV.int IntKind.i64 k, SV.int IntKind.i64 si, SV.int IntKind.i64 ww])])) := by
  have hil : i < s.ls.length := by rw [h.len]; exact hi3
  have hil' : i < (dl.to I3).length := by rw [hw.l.2.2]; exact hil
  obtain ⟨l, hl⟩ : ∃ l, s.ls[i]? = some l := ⟨_, List.getElem?_eq_getElem hil⟩
  obtain ⟨c0, c1, c2, c3⟩ := i3_cell hw.l.1 hil'
  have hle : (dl.to I3)[i] = l := by apply Option.some.inj; rw [← List.getElem?_eq_getElem hil', hw.l.2.2]; exact hl
  rw [hle] at c1 c2 c3
  have hrt := h.rql
  have hat := h.anl
  have hr : s.rq.length ≤ 60 := by have := h.rql; omega
  have hdr : dr.len = s.rq.length := by rw [D.Is.length (α := Rq), hw.r.2.2]
  have hda : da.len = s.an.length := by rw [D.Is.length (α := Msg), hw.a.2.2]
  have hdl : dl.len = 3 := by rw [D.Is.length (α := I3), hw.l.2.2]; exact h.len
  have hs := h.site i l hl
  have hf := h.formed hl
  have h1 := h.wk ht
  have he1 : (((t + 1 : Nat)) : Int) = (t : Int) + 1 := by omega
  refine execRX_sound ctSOk [] [] 900 _ ?_
  rw [st5_in]
  simp only [hi, Int.toNat_natCast, c1, c2, c3]
  refine ⟨⟨by omega, by omega, hw.l.2.1⟩, ⟨c0, hw.l.2.1⟩, fun hs1 => ⟨fun hc hs2 => ⟨fun hz hs3 => ?_, fun hz hs3 => ?_⟩, fun hc hs2 => ⟨fun hz => ?_, fun hz => ⟨fun hy => ?_, fun hy => ?_⟩⟩⟩⟩
  · have hh := (of_decide_eq_true hc).2
    have hz' : raiseI (s.fe, s.fo, false) l.b (i : Int) = 0 := of_decide_eq_true hz
    obtain ⟨q1, q2, q3⟩ := h1.raise hl hh hz'
    simp only [hz', zi, if_true, q2]
    exact retZ (l := [.bool true]) (lzM dl dr da mp s.now s.term s.margin s.we s.wh s.wu l.b (i : Int) k si ww) ⟨_, S, q1, ⟨dl, dr, da, ⟨hw.l, hw.r, hw.a⟩, rfl⟩, .inr q3, fun _ l' hl' _ => by simp only [hl] at hl'; cases hl'; exact ⟨rfl, rfl⟩⟩
  · have hh := (of_decide_eq_true hc).2
    have hz' : ¬ raiseI (s.fe, s.fo, false) l.b (i : Int) = 0 := of_decide_eq_false hz
    obtain ⟨q1, q2, q3⟩ := h1.noraise hl hh hz'
    simp only [q1]
    exact retZ (l := [.bool true]) (lzM dl dr da mp s.now s.term s.margin s.we s.wh s.wu s.fe s.fo k si ww) ⟨s, S, h1, ⟨dl, dr, da, hw, rfl⟩, .inl ⟨rfl, rfl⟩, fun _ l' hl' _ => by rw [hl] at hl'; cases hl'; exact ⟨q2, q3⟩⟩
  all_goals have hno : ¬ s.now < l.c := fun hx => (of_decide_eq_false hc) ⟨hf, hx⟩
  · repeat refine ⟨hz, ?_⟩
    exact retZ (l := [.lb true]) (lzM dl dr da mp s.now s.term s.margin s.we s.wh s.wu s.fe s.fo k si ww) ⟨s, S, h1, ⟨dl, dr, da, hw, rfl⟩, .inl ⟨rfl, rfl⟩, fun _ l' hl' hx => by rw [hl] at hl'; cases hl'; exact absurd hx hno⟩
  all_goals (have hz' : admitI (s.fe, s.fo, false) l.b (i : Int) = 0 := bne_eq_false_iff_eq.1 hz; obtain ⟨z1, z2⟩ := admit_zero hz')
  · repeat' first
      | refine ⟨hz, ?_⟩
      | refine ⟨hy, ?_⟩
      | fail
    have z3 : decide (s.fe = l.b) = true := decide_eq_true z1
    simp only [z3]
    exact retZ (l := [.bool true]) (lzM dl dr da mp s.now s.term s.margin s.we s.wh s.wu s.fe s.fo k si ww) ⟨s, S, h1, ⟨dl, dr, da, hw, rfl⟩, .inl ⟨rfl, rfl⟩, fun _ l' hl' hx => by rw [hl] at hl'; cases hl'; exact absurd hx hno⟩
  · exact absurd z2 (of_decide_eq_false hy)
theorem st6_law {dl dr da mp : D} {s : Lz} {S : Int} {t : Nat} (h : FInv s S t) (ht : t ≤ 60) (hw : LzW dl dr da s) (k si ww : Int) {i : Nat} (hi : Int.tmod (IntKind.wrap IntKind.i64 (Int.tmod si 3 + 3)) 3 = (i : Int)) (hi3 : i < 3) (hk5 : ¬ k = 5) (w0 : World) (H : HV) (fp : Nat → Nat) :
    Tree.holds Try.prog (@Ctx.mk w0 H (pinX fp)) (RetP w0 H fp fun v mm => v = .lb true ∧ StepZ mp s t k si ww i mm) (Tree.leaf (Conf.mk (SFrm.mk 5 none none [Item.code (cAt Try.prog 5 [1, 1, 1, 0, 1, 0, 1, 1, 1, 1, 1, 1, 1, 1, 1, 1, 1, 1]), Item.inBlock 0, Item.code (cAt Try.prog 5 [1, 1, 1, 1])] (mkJ 0 [(0, SV.ptr 100000 0), (3, SV.ptr 1 0)] 0 161)) [] [(1, OBlk.cells 28 [SV.int IntKind.i64 k, SV.int IntKind.i64 si, SV.int IntKind.i64 ww]), (2, OBlk.arr 33 dl), (3, OBlk.arr 60 dr), (4, OBlk.arr 52 da), (100000, OBlk.cells 42 [SV.int IntKind.i64 s.now, SV.int IntKind.i64 s.term, SV.int IntKind.i64 s.margin, SV.int IntKind.i64 s.we, SV.int IntKind.i64 s.wh, SV.int IntKind.i64 s.wu, SV.vec 2, SV.vec 3, SV.vec 4, SV.int IntKind.i64 s.fe, SV.int IntKind.i64 s.fo, SV.lb false]), (100001, OBlk.mapD IntKind.i64 false [FT.int IntKind.i64] mp), (100002, OBlk.cells 28 [SV.int IntKind.i64 k, SV.int IntKind.i64 si, SV.int IntKind.i64 ww])])) := by
  have hil : i < s.ls.length := by rw [h.len]; exact hi3
  have hil' : i < (dl.to I3).length := by rw [hw.l.2.2]; exact hil
  obtain ⟨l, hl⟩ : ∃ l, s.ls[i]? = some l := ⟨_, List.getElem?_eq_getElem hil⟩
  obtain ⟨c0, c1, c2, c3⟩ := i3_cell hw.l.1 hil'
  have hle : (dl.to I3)[i] = l := by apply Option.some.inj; rw [← List.getElem?_eq_getElem hil', hw.l.2.2]; exact hl
  rw [hle] at c1 c2 c3
  have hrt := h.rql
  have hat := h.anl
  have hr : s.rq.length ≤ 60 := by have := h.rql; omega
  have hdr : dr.len = s.rq.length := by rw [D.Is.length (α := Rq), hw.r.2.2]
  have hda : da.len = s.an.length := by rw [D.Is.length (α := Msg), hw.a.2.2]
  have hdl : dl.len = 3 := by rw [D.Is.length (α := I3), hw.l.2.2]; exact h.len
  have hs := h.site i l hl
  have hf := h.formed hl
  have h1 := h.wk ht
  have he1 : (((t + 1 : Nat)) : Int) = (t : Int) + 1 := by omega
  refine execRX_sound ctSOk [] [] 900 _ ?_
  rw [st6_in]
  obtain ⟨q1, q2⟩ := idx7_bd ww
  obtain ⟨q, hq⟩ : ∃ q, Int.tmod (IntKind.wrap IntKind.i64 (Int.tmod ww 7 + 7)) 7 = q := ⟨_, rfl⟩
  rw [hq] at q1 q2
  have hn := h.now
  have hsm := h.small
  rw [hq, show IntKind.wrap IntKind.i64 (s.now + q) = s.now + q by rw [wrap64J (by omega) (by omega)]]
  exact fun hs1 => ⟨by decide, by decide, retZ (l := [.lb true]) (lzM dl dr da mp (s.now + q) s.term s.margin s.we s.wh s.wu s.fe s.fo k si ww) ⟨_, S, h1.pass q1 (by omega), ⟨dl, dr, da, ⟨hw.l, hw.r, hw.a⟩, rfl⟩, .inl ⟨rfl, rfl⟩, fun hk => absurd hk hk5⟩⟩
end Go.Proofs.Ytanpcdcgkhbomaa
end
section
open Go Go.Proofs Sx
namespace Go.Proofs.Ytanpcdcgkhbomaa
set_option maxRecDepth 100000
set_option maxHeartbeats 0
noncomputable def ctT : Ctrs := (8, ctrOf ((rdInt.two rdInt).sp spNewF)) :: ctS
section
variable (dl dr da mp l : D) (now term margin we wh wu fe fo a b k si ww : Int)
theorem hol_in : execRX Try.prog ctS [] [] 400 ⟨⟨6, none, none, [.code (cAt Try.prog 6 [])], mkJ 1 [(0, .ptr 100000 0)] 0 30⟩, [], lzM dl dr da mp now term margin we wh wu fe fo k si ww⟩ =
 Tree.leaf
 (Conf.mk
 (SFrm.mk 6 none none
 [Item.inLoop (cAt Try.prog 6 [1, 1, 0, 1, 0, 0]), Item.inBlock 0, Item.code (cAt Try.prog 6 [1, 1, 1])]
 (mkJ 0
 [(0, .ptr 100000 0), (4, .int .i64 0), (5, .int .i64 (Int.neg 1)), (11, .vec 1),
 (12, .int .i64 (↑(D.len dl) : Int)), (13, .int .i64 0)]
 0 30))
 []
 [(1, OBlk.arr 33 dl), (2, OBlk.arr 60 dr), (3, OBlk.arr 52 da),
 (100000,
 OBlk.cells 42
 [.int .i64 now, .int .i64 term, .int .i64 margin, .int .i64 we,
 .int .i64 wh, .int .i64 wu, .vec 1, .vec 2, .vec 3, .int .i64 fe,
 .int .i64 fo, .lb false]),
 (100001, OBlk.mapD .i64 false [FT.int .i64] mp),
 (100002, OBlk.cells 28 [.int .i64 k, .int .i64 si, .int .i64 ww])]) := by kernel_rfl

theorem ta_in : execRX Try.prog ctT [] [] 600 (entry Try.prog 3 [.int .u8 a, .int .u8 b, .dat l]) =
 Tree.all fun hs =>
 .need ((12 : Int) ≠ 0)
 (.need ((4 : Int) ≠ 0)
 (.leaf
 (Conf.mk
 (SFrm.mk 4 none none
 [Item.inLoop (cAt Try.prog 4 [1, 1, 1, 0, 1, 0, 0]), Item.inBlock 0,
 Item.code (cAt Try.prog 4 [1, 1, 1, 1])]
 (mkJ 1 [(7, .int .i64 (newFI 0 0)), (8, .ptr 0 0), (25, .int .i64 0)] 0 43))
 [SFrm.mk 3 (some (opsAt Try.prog 3 [1, 0], [3, 4, 5, 6, 7])) (some 22) [Item.code (cAt Try.prog 3 [1, 1])]
 (mkU
 [(0, .int .u8 a), (1, .int .u8 b), (2, .dat l), (6, .lb false),
 (20, .int .u8 a), (21, .int .u8 b)]
 0 105)]
 [(0,
 OBlk.cells 42
 [.int .i64 0,
 .int .i64 (IntKind.wrap .i64 (Int.tmod (IntKind.wrap .i64 a) 12 + 1)),
 .int .i64 (Int.tmod (IntKind.wrap .i64 b) 4), .int .i64 0,
 .int .i64 (Int.neg 1), .int .i64 0, .nils, .nils, .nils,
 .int .i64 (zi (newFI 0 0 = 0) 0), .int .i64 (zi (newFI 0 0 = 0) 0),
 .lb false])]))) := by kernel_rfl

end
end Go.Proofs.Ytanpcdcgkhbomaa
end
section
open Go Go.Proofs Sx
namespace Go.Proofs.Ytanpcdcgkhbomaa
set_option maxRecDepth 100000
set_option maxHeartbeats 0
noncomputable def hoM (dl dr da mp : D) (now term margin we wh wu fe fo k si ww : Int) : Mem := [(1, .arr 33 dl), (2, .arr 60 dr), (3, .arr 52 da), (100000, .cells 42 [.int .i64 now, .int .i64 term, .int .i64 margin, .int .i64 we, .int .i64 wh, .int .i64 wu, .vec 1, .vec 2, .vec 3, .int .i64 fe, .int .i64 fo, .lb false]), (100001, .mapD .i64 false [.int .i64] mp), (100002, .cells 28 [.int .i64 k, .int .i64 si, .int .i64 ww])]
noncomputable def hoL (dl : D) (n w j : Int) (mm : Mem) : Conf := Conf.mk (SFrm.mk 6 none none [Item.inLoop (cAt Try.prog 6 [1, 1, 0, 1, 0, 0]), Item.inBlock 0, Item.code (cAt Try.prog 6 [1, 1, 1])] (mkJ 0 [(0, .ptr 100000 0), (4, .int .i64 n), (5, .int .i64 w), (11, .vec 1), (12, .int .i64 (dl.len : Int)), (13, .int .i64 j)] 0 30)) [] mm
section
variable (dl dr da mp : D) (now term margin we wh wu fe fo n w j k si ww : Int)
variable (a b : Int) (l : D)
theorem ho_go : execRX Try.prog ctS [] [] 400 (unroll (hoL dl n w j (hoM dl dr da mp now term margin we wh wu fe fo k si ww))) =
 Tree.br (decide (j < (↑(D.len dl) : Int)))
 (.need (0 ≤ j ∧ j < (↑(D.len dl) : Int) ∧ D.sz dl = 3)
 (.need
 (D.HasCells dl (Int.toNat j) 0 [FT.int .i64, FT.int .i64, FT.int .i64] ∧ D.sz dl = 3)
 (.all fun hs =>
 .br
 (decide
 (FormedP (D.getInt dl (Int.toNat j) 0, D.getInt dl (Int.toNat j) 1, D.getInt dl (Int.toNat j) 2) ∧
 now < D.getInt dl (Int.toNat j) 2))
 (.leaf
 (Conf.mk
 (SFrm.mk 6 none none
 [Item.inLoop (cAt Try.prog 6 [1, 1, 0, 1, 0, 0]), Item.inBlock 0, Item.code (cAt Try.prog 6 [1, 1, 1])]
 (mkJ 0
 [(0, .ptr 100000 0), (4, .int .i64 (IntKind.wrap .i64 (n + 1))),
 (5, .int .i64 j), (11, .vec 1), (12, .int .i64 (↑(D.len dl) : Int)),
 (13, .int .i64 (IntKind.wrap .i64 (j + 1)))]
 0 30))
 []
 [(1, OBlk.arr 33 dl), (2, OBlk.arr 60 dr), (3, OBlk.arr 52 da),
 (100000,
 OBlk.cells 42
 [.int .i64 now, .int .i64 term, .int .i64 margin, .int .i64 we,
 .int .i64 wh, .int .i64 wu, .vec 1, .vec 2, .vec 3, .int .i64 fe,
 .int .i64 fo, .lb false]),
 (100001, OBlk.mapD .i64 false [FT.int .i64] mp),
 (100002, OBlk.cells 28 [.int .i64 k, .int .i64 si, .int .i64 ww])]))
 (.leaf
 (Conf.mk
 (SFrm.mk 6 none none
 [Item.inLoop (cAt Try.prog 6 [1, 1, 0, 1, 0, 0]), Item.inBlock 0, Item.code (cAt Try.prog 6 [1, 1, 1])]
 (mkJ 0
 [(0, .ptr 100000 0), (4, .int .i64 n), (5, .int .i64 w), (11, .vec 1),
 (12, .int .i64 (↑(D.len dl) : Int)),
 (13, .int .i64 (IntKind.wrap .i64 (j + 1)))]
 0 30))
 []
 [(1, OBlk.arr 33 dl), (2, OBlk.arr 60 dr), (3, OBlk.arr 52 da),
 (100000,
 OBlk.cells 42
 [.int .i64 now, .int .i64 term, .int .i64 margin, .int .i64 we,
 .int .i64 wh, .int .i64 wu, .vec 1, .vec 2, .vec 3, .int .i64 fe,
 .int .i64 fo, .lb false]),
 (100001, OBlk.mapD .i64 false [FT.int .i64] mp),
 (100002, OBlk.cells 28 [.int .i64 k, .int .i64 si, .int .i64 ww])])))))
 (.leaf
 (Conf.mk
 (SFrm.mk 6 none none [Item.code (cAt Try.prog 6 [1, 1, 1, 1])]
 (mkJ 0 [(2, .int .i64 n), (3, .int .i64 w)] 0 30))
 []
 [(0, OBlk.arr 33 dl), (1, OBlk.arr 60 dr), (2, OBlk.arr 52 da),
 (100000,
 OBlk.cells 42
 [.int .i64 now, .int .i64 term, .int .i64 margin, .int .i64 we,
 .int .i64 wh, .int .i64 wu, .vec 0, .vec 1, .vec 2, .int .i64 fe,
 .int .i64 fo, .lb false]),
 (100001, OBlk.mapD .i64 false [FT.int .i64] mp),
 (100002, OBlk.cells 28 [.int .i64 k, .int .i64 si, .int .i64 ww])])) := by kernel_rfl

theorem rg0_in : execRX Try.prog ctT [] [] 600 (unroll (Conf.mk (SFrm.mk 4 none none [Item.inLoop (cAt Try.prog 4 [1, 1, 1, 0, 1, 0, 0]), Item.inBlock 0, Item.code (cAt Try.prog 4 [1, 1, 1, 1])] (mkJ 1 [(7, .int .i64 (newFI 0 0)), (8, .ptr 0 0), (25, .int .i64 0)] 0 43)) [SFrm.mk 3 (some (opsAt Try.prog 3 [1, 0], [3, 4, 5, 6, 7])) (some 22) [Item.code (cAt Try.prog 3 [1, 1])] (mkU [(0, .int .u8 a), (1, .int .u8 b), (2, .dat l), (6, .lb false), (20, .int .u8 a), (21, .int .u8 b)] 0 105)] [(0, OBlk.cells 42 [.int .i64 0, .int .i64 (IntKind.wrap .i64 (Int.tmod (IntKind.wrap .i64 a) 12 + 1)), .int .i64 (Int.tmod (IntKind.wrap .i64 b) 4), .int .i64 0, .int .i64 (Int.neg 1), .int .i64 0, .nils, .nils, .nils, .int .i64 (zi (newFI 0 0 = 0) 0), .int .i64 (zi (newFI 0 0 = 0) 0), .lb false])])) =
 Tree.br true
 (.all fun hs =>
 .need
 (D.Fits (D.slc (D.hd (hs 0 0)) 3 [[D.int .i64 0, D.int .i64 0, D.int .i64 0]]) 3 ∧
 D.len (D.slc (D.hd (hs 0 0)) 3 [[D.int .i64 0, D.int .i64 0, D.int .i64 0]]) * 24 ≤
 140737488355328 ∧
 D.len (D.slc (D.hd (hs 0 0)) 3 [[D.int .i64 0, D.int .i64 0, D.int .i64 0]]) ≤
 9223372036854775807)
 (.all fun hs_1 =>
 .leaf
 (Conf.mk
 (SFrm.mk 4 none none
 [Item.inLoop (cAt Try.prog 4 [1, 1, 1, 0, 1, 0, 0]), Item.inBlock 0,
 Item.code (cAt Try.prog 4 [1, 1, 1, 1])]
 (mkJ 1
 [(7, .int .i64 (newFI 0 0)), (8, .ptr 0 0),
 (25, .int .i64 (IntKind.wrap .i64 (0 + 1)))]
 0 43))
 [SFrm.mk 3 (some (opsAt Try.prog 3 [1, 0], [3, 4, 5, 6, 7])) (some 22) [Item.code (cAt Try.prog 3 [1, 1])]
 (mkU
 [(0, .int .u8 a), (1, .int .u8 b), (2, .dat l), (6, .lb false),
 (20, .int .u8 a), (21, .int .u8 b)]
 0 105)]
 [(0,
 OBlk.cells 42
 [.int .i64 0,
 .int .i64 (IntKind.wrap .i64 (Int.tmod (IntKind.wrap .i64 a) 12 + 1)),
 .int .i64 (Int.tmod (IntKind.wrap .i64 b) 4), .int .i64 0,
 .int .i64 (Int.neg 1), .int .i64 0, .vec 1, .nils, .nils,
 .int .i64 (zi (newFI 0 0 = 0) 0), .int .i64 (zi (newFI 0 0 = 0) 0), .lb false]),
 (1,
 OBlk.arr 33
 (D.slc (D.hd (hs_1 0 0)) 3
 (D.rows
 (D.slc (D.hd (hs 0 0)) 3 [[D.int .i64 0, D.int .i64 0, D.int .i64 0]]))))])))
 (.br (decide ((↑(D.len l) : Int) > 60))
 (.leaf
 (Conf.mk
 (SFrm.mk 3 none none [Item.code (cAt Try.prog 3 [1, 1, 0, 1, 0, 1]), Item.code (cAt Try.prog 3 [1, 1, 1])]
 (mkJ 0 [(6, .lb true)] 0 105))
 [] []))
 (.leaf
 (Conf.mk
 (SFrm.mk 3 none none
 [Item.inLoop (cAt Try.prog 3 [1, 1, 1, 1, 0, 1, 0, 0]), Item.inBlock 0,
 Item.code (cAt Try.prog 3 [1, 1, 1, 1, 1])]
 (mkJ 0
 [(7, .ptr 0 0), (8, .bool true), (9, .mapp 1), (29, .dat l),
 (30, .int .i64 (↑(D.len l) : Int)), (31, .int .i64 0)]
 0 105))
 []
 [(0,
 OBlk.cells 42
 [.int .i64 0,
 .int .i64 (IntKind.wrap .i64 (Int.tmod (IntKind.wrap .i64 a) 12 + 1)),
 .int .i64 (Int.tmod (IntKind.wrap .i64 b) 4), .int .i64 0,
 .int .i64 (Int.neg 1), .int .i64 0, .nils, .nils, .nils,
 .int .i64 (zi (newFI 0 0 = 0) 0), .int .i64 (zi (newFI 0 0 = 0) 0), .lb false]),
 (1, OBlk.map [])]))) := by kernel_rfl

end
end Go.Proofs.Ytanpcdcgkhbomaa
end
section
namespace Sx
open Go RowKit
def pinO (a b k : Nat) : Nat :=
  match Nat.beq k a with
  | true => b
  | false => k
def pinOC (a b : Nat) (c : Conf) : Option Conf :=
  match Nat.blt a PIN && Nat.ble PIN b && !(c.allKeys.contains b) with
  | true => some (renWith (pinO a b) c)
  | false => none
theorem pinO_to {P : Program} {C : Ctx} {R : Value → World → Prop} (a b : Nat) {c : Conf} (c' : Conf) (hc : pinOC a b c = some c') (h : Runs P C c' R) (hpn : C.x.pn = none := by rfl) : Runs P C c R := by
  unfold pinOC at hc
  split at hc
  · rename_i hchk
    cases hc
    simp only [Bool.and_eq_true, Bool.not_eq_true'] at hchk
    obtain ⟨⟨hA, hB⟩, hcont⟩ := hchk
    have hnb : ∀ k, k ∈ c.allKeys → k ≠ b := fun k hk e => by
      subst e
      rw [List.contains_iff.2 hk] at hcont; cases hcont
    intro E H w g ok
    have all : ∀ k, k ∈ SV.keysL c.top.tmps ∨ (∃ f, f ∈ c.rest ∧ k ∈ SV.keysL f.tmps) ∨ k ∈ Mem.named c.mem → k ∈ c.allKeys := fun k hk => by
      rcases hk with hk | ⟨f, hf, hk⟩ | hk
      · exact meet_mem (.inl (walkK_mem (meet_mem (.inr (List.mem_append_left _ hk)))))
      · exact meet_mem (.inl (walkK_mem (meet_mem (.inr (List.mem_append_right _ (List.mem_flatMap.2 ⟨f, hf, hk⟩))))))
      · exact meet_mem (.inr hk)
    let E' : Env := ⟨fun i => if i = b then E.b a else E.b i, fun i => if i = b then E.v a else E.v i, E.j⟩
    have cas : ∀ k, k ∈ c.allKeys → (k = a ∧ pinO a b k = b) ∨ (k ≠ a ∧ k ≠ b ∧ pinO a b k = k) := fun k hk => by
      by_cases hka : k = a
      · left; refine ⟨hka, ?_⟩; subst hka; simp only [pinO, Nat.beq_refl]
      · right
        refine ⟨hka, hnb k hk, ?_⟩
        have : Nat.beq k a = false := by
          cases hb : Nat.beq k a with
          | false => rfl
          | true => exact absurd (Nat.eq_of_beq_eq_true hb) hka
        simp only [pinO, this]
    have ren : ∀ k, k ∈ c.allKeys → Ren (pinO a b) E E' k := fun k hk => by
      rcases cas k hk with ⟨h1, h2⟩ | ⟨h1, h2, h3⟩
      · exact ⟨by show (if pinO a b k = b then E.b a else E.b (pinO a b k)) = E.b k; rw [if_pos h2, h1], by show (if pinO a b k = b then E.v a else E.v (pinO a b k)) = E.v k; rw [if_pos h2, h1]⟩
      · simp only [Ren, E', h3, if_neg h2, and_self]
    have inj : ∀ k j, k ∈ c.allKeys → j ∈ c.allKeys → pinO a b k = pinO a b j → k = j := fun k j hk hj e => by
      rcases cas k hk with ⟨h1, h2⟩ | ⟨h1, h2, h3⟩ <;> rcases cas j hj with ⟨g1, g2⟩ | ⟨g1, g2, g3⟩
      · rw [h1, g1]
      · rw [h2, g3] at e; exact absurd e.symm g2
      · rw [h3, g2] at e; exact absurd e h2
      · rw [h3, g3] at e; exact e
    have named : ∀ k o, (k, o) ∈ c.mem → k ∈ c.allKeys ∧ ∀ j, j ∈ o.keys → j ∈ c.allKeys := fun k o hm => by
      refine ⟨all k (.inr (.inr ?_)), fun j hj => all j (.inr (.inr ?_))⟩
      · simp only [Mem.named, List.mem_flatMap]; exact ⟨_, hm, List.mem_cons_self⟩
      · simp only [Mem.named, List.mem_flatMap]; exact ⟨_, hm, List.mem_cons_of_mem _ hj⟩
    have gd : Good C (c.mem.map fun e => (pinO a b e.1, e.2.ren (pinO a b))) E' H w := by
      refine ⟨g.below, g.ext, g.fresh, g.cell, fun k o hko => ?_, ?_, fun x y hx hy hne hlx hly => ?_, ⟨g.fix.fx, g.fix.mark, g.fix.nodup, fun f hf => by rw [hpn] at hf; cases hf⟩⟩
      · obtain ⟨e, he, h1⟩ := List.mem_map.1 hko
        simp only [Prod.mk.injEq] at h1
        obtain ⟨rfl, rfl⟩ := h1
        obtain ⟨n1, n2⟩ := named e.1 e.2 he
        exact (g.own e.1 e.2 he).ren (E' := E') (show E'.j = E.j from rfl) (ren _ n1) (fun j hj => ren j (n2 j hj)) (fun es _ hk => keysOk_ren hk)
      · rw [List.pairwise_map]
        refine g.keys.imp_of_mem ?_
        intro x y hx hy hne e
        exact hne (inj _ _ (named x.1 x.2 hx).1 (named y.1 y.2 hy).1 e)
      · obtain ⟨x', hx', h1⟩ := List.mem_map.1 hx
        obtain ⟨y', hy', h2⟩ := List.mem_map.1 hy
        subst h1; subst h2
        simp only at hne hlx hly ⊢
        rw [(ren x'.1 (named x'.1 x'.2 hx').1).1, (ren y'.1 (named y'.1 y'.2 hy').1).1]
        exact g.apart x' y' hx' hy' (fun e => hne (by rw [e])) ((OBlk.lies_ren _ _).1 hlx) ((OBlk.lies_ren _ _).1 hly)
    have hr := h E' H w gd ⟨SV.okL_ren _ ok.1, fun f hf => by
      obtain ⟨f', hf', rfl⟩ := List.mem_map.1 hf
      exact SV.okL_ren _ (ok.2 f' hf')⟩
    have e1 : (renWith (pinO a b) c).top.den E' = c.top.den E := by
      simp only [renWith, SFrm.den]
      rw [SV.denL_ren (E := E) (E' := E') rfl _ fun k hk => ren k (all k (.inl hk))]
    have e2 : (renWith (pinO a b) c).rest.map (SFrm.den E') = c.rest.map (SFrm.den E) := by
      simp only [renWith, List.map_map]
      apply List.map_congr_left
      intro f hf
      simp only [Function.comp, SFrm.den]
      rw [SV.denL_ren (E := E) (E' := E') rfl _ fun k hk => ren k (all k (.inr (.inl ⟨f, hf, hk⟩)))]
    rw [e1, e2] at hr
    exact hr
  · cases hc
end Sx
end
section
open Go Go.Proofs Sx
namespace Sx
theorem retF {P : Program} {w0 : World} {H : HV} {f : Nat → Nat} {Φ : SV → Mem → Prop} {fn : FuncId} {aw : Option Tmp} {k : List Item} {tmps : List SV} {mem : Mem} {fd : Func} {l : List SV} (m' : Mem) (hfn : P.funcs[fn]? = some fd) (hres : resS P mem tmps fd.results.toList = some l)
    (hm : MemTo mem m') (hj : (one? l).jk 0 = false) (hv : (one? l).fixed = true) (hjm : m'.all (fun x => !x.2.jk 0) = true) (h : Φ (one? l) m') : (Tree.leaf ⟨⟨fn, none, aw, .code .ret :: k, tmps⟩, [], mem⟩).holds P (@Ctx.mk w0 H (pinX f)) (RetP w0 H f Φ) := by
  intro E Hx w g ok
  have hpin := g.fix.pin f rfl
  obtain ⟨h1, h2⟩ := run_results (P := P) g.take ok.1 hres
  refine Go1.ret hfn rfl g.fix.nodup (fun D hD => (g.fix.fx D _ (g.fix.mark D hD).2).1) h1 ?_
  obtain ⟨E', e1, e2, g'⟩ := hm _ E Hx _ g.take
  exact ⟨_, m', E', Hx, h, (den_fixed e1 e2 _ hv).symm, g', fun q hq => (e2 q hq).trans (hpin q hq), h2, hj, fun x hx => by
    have := List.all_eq_true.1 hjm x hx
    simpa using this⟩
end Sx
namespace Go.Proofs.Ytanpcdcgkhbomaa
set_option maxRecDepth 100000
theorem step_law {dl dr da mp : D} {s : Lz} {S : Int} {t : Nat} (h : FInv s S t) (ht : t ≤ 60) (hw : LzW dl dr da s) (k si ww : Int) {i : Nat} (hi : Int.tmod (IntKind.wrap IntKind.i64 (Int.tmod si 3 + 3)) 3 = (i : Int)) (hi3 : i < 3) (w0 : World) (H : HV) (fp : Nat → Nat) :
    Runs Try.prog (@Ctx.mk w0 H (pinX fp)) ⟨⟨5, none, none, [.code (cAt Try.prog 5 [])], mkJ 1 [(0, .ptr 100000 0), (1, .agg [.int .i64 k, .int .i64 si, .int .i64 ww])] 0 161⟩, [], lzM dl dr da mp s.now s.term s.margin s.we s.wh s.wu s.fe s.fo k si ww⟩
      (RetP w0 H fp fun v mm => v = .lb true ∧ StepZ mp s t k si ww i mm) := by
  have hil' : i < (dl.to I3).length := by rw [hw.l.2.2, h.len]; exact hi3
  obtain ⟨c0, _⟩ := i3_cell hw.l.1 hil'
  have hdl : dl.len = 3 := by rw [D.Is.length (α := I3), hw.l.2.2]; exact h.len
  refine execRX_sound ctSOk [] [(5, 46), (5, 67), (5, 79), (5, 95), (5, 152), (5, 158), (5, 31)] 900 _ ?_
  rw [stp_in]
  refine ⟨by decide, by decide, by rw [hi]; exact ⟨by omega, by omega, hw.l.2.1⟩, by rw [hi]; exact ⟨c0, hw.l.2.1⟩, fun a0 => ?_, fun a0 => ⟨fun a1 => ?_, fun a1 => ⟨fun a2 => ?_, fun a2 => ⟨fun a3 => ?_, fun a3 => ⟨fun a4 => ?_, fun a4 => ⟨fun a5 => ?_, fun a5 => ?_⟩⟩⟩⟩⟩⟩
  · exact st0_law h ht hw k si ww hi hi3 (by have := of_decide_eq_true a0; omega) w0 H fp
  · exact st1_law h ht hw k si ww hi hi3 (by have := of_decide_eq_true a1; omega) w0 H fp
  · exact st2_law h ht hw k si ww hi hi3 (by have := of_decide_eq_true a2; omega) w0 H fp
  · exact st3_law h ht hw k si ww hi hi3 (by have := of_decide_eq_true a3; omega) w0 H fp
  · exact st4_law h ht hw k si ww hi hi3 (by have := of_decide_eq_true a4; omega) w0 H fp
  · exact st5_law h ht hw k si ww hi hi3 w0 H fp
  · exact st6_law h ht hw k si ww hi hi3 (of_decide_eq_false a5) w0 H fp
def HolZ (dl dr da mp : D) (s : Lz) (k si ww : Int) (v : SV) (mm : Mem) : Prop := ∃ n w : Int, v = .tup [.int .i64 n, .int .i64 w] ∧ mm = lzM dl dr da mp s.now s.term s.margin s.we s.wh s.wu s.fe s.fo k si ww ∧ (w = -1 ∨ ∃ (i : Nat) (l : I3), w = (i : Int) ∧ s.ls[i]? = some l ∧ s.now < l.c)
theorem wrapj25 {j : Nat} (h : j < 1048576) : IntKind.i64.wrap ((j : Int) + 1) = ((j + 1 : Nat) : Int) := by rw [wrap64J (by omega) (by omega)]; rfl
theorem ho_loop {dl dr da mp : D} {s : Lz} {S : Int} {t : Nat} (h : FInv s S t) (hw : LzW dl dr da s) (k si ww : Int) (w0 : World) (H : HV) (fp : Nat → Nat) : ∀ (q j : Nat) {n w : Int}, j + q = 3 → (w = -1 ∨ ∃ (i : Nat) (l : I3), w = (i : Int) ∧ s.ls[i]? = some l ∧ s.now < l.c) →
    Runs Try.prog (@Ctx.mk w0 H (pinX fp)) (hoL dl n w j (hoM dl dr da mp s.now s.term s.margin s.we s.wh s.wu s.fe s.fo k si ww)) (RetP w0 H fp (HolZ dl dr da mp s k si ww))
  | 0, j, n, w, hj, hc => by
    have hdl : dl.len = 3 := by rw [D.Is.length (α := I3), hw.l.2.2]; exact h.len
    refine unroll_sound rfl ?_
    apply execRX_sound ctSOk [] [] 400
    rw [ho_go]
    refine ⟨fun h => absurd (of_decide_eq_true h) (by omega), fun _ => ?_⟩
    refine retF (fd := Try.f6) (l := [.int .i64 n, .int .i64 w]) (lzM dl dr da mp s.now s.term s.margin s.we s.wh s.wu s.fe s.fo k si ww) (by kernel_rfl) (by kernel_rfl) (MemTo.to (mvOf 100000 [6, 7, 8] [(0, OBlk.arr 33 dl), (1, OBlk.arr 60 dr), (2, OBlk.arr 52 da), (100000, .cells 42 [.int .i64 s.now, .int .i64 s.term, .int .i64 s.margin, .int .i64 s.we, .int .i64 s.wh, .int .i64 s.wu, .vec 0, .vec 1, .vec 2, .int .i64 s.fe, .int .i64 s.fo, .lb false])]) [100000, 0, 1, 2, 100001, 100002] (by kernel_rfl) (by decide)) (by rfl) (by rfl) (by kernel_rfl) ⟨n, w, rfl, rfl, hc⟩
  | q + 1, j, n, w, hj, hc => by
    have hdl : dl.len = 3 := by rw [D.Is.length (α := I3), hw.l.2.2]; exact h.len
    have hlt : j < (dl.to I3).length := by rw [hw.l.2.2, h.len]; omega
    obtain ⟨c0, c1, c2, c3⟩ := i3_cell hw.l.1 hlt
    obtain ⟨l, hl⟩ : ∃ l, s.ls[j]? = some l := ⟨_, List.getElem?_eq_getElem (by rw [h.len]; omega)⟩
    have hle : (dl.to I3)[j] = l := by apply Option.some.inj; rw [← List.getElem?_eq_getElem hlt, hw.l.2.2]; exact hl
    rw [hle] at c1 c2 c3
    refine unroll_sound rfl ?_
    apply execRX_sound ctSOk [] [] 400
    rw [ho_go, wrapj25 (by omega)]
    refine ⟨fun _ => ⟨⟨by omega, by omega, hw.l.2.1⟩, ⟨c0, hw.l.2.1⟩, fun hs => ⟨fun hx => ?_, fun hx => ?_⟩⟩, fun h => absurd (of_decide_eq_false h) (by omega)⟩
    · have hx' := (of_decide_eq_true hx).2
      simp only [Int.toNat_natCast, c3] at hx'
      exact ho_loop h hw k si ww w0 H fp q (j + 1) (by omega) (.inr ⟨j, l, rfl, hl, hx'⟩)
    · exact ho_loop h hw k si ww w0 H fp q (j + 1) (by omega) hc
theorem hol_law {dl dr da mp : D} {s : Lz} {S : Int} {t : Nat} (h : FInv s S t) (hw : LzW dl dr da s) (k si ww : Int) (w0 : World) (H : HV) (fp : Nat → Nat) :
    Runs Try.prog (@Ctx.mk w0 H (pinX fp)) ⟨⟨6, none, none, [.code (cAt Try.prog 6 [])], mkJ 1 [(0, .ptr 100000 0)] 0 30⟩, [], lzM dl dr da mp s.now s.term s.margin s.we s.wh s.wu s.fe s.fo k si ww⟩
      (RetP w0 H fp (HolZ dl dr da mp s k si ww)) := by
  refine execRX_sound ctSOk [] [] 400 _ ?_
  rw [hol_in]
  exact ho_loop h hw k si ww w0 H fp 3 0 (n := 0) (w := Int.neg 1) (by omega) (.inl rfl)
end Go.Proofs.Ytanpcdcgkhbomaa
end
section
open Go Go.Proofs Sx
namespace Go.Proofs.Ytanpcdcgkhbomaa
set_option maxRecDepth 100000
set_option maxHeartbeats 0
noncomputable def lzB (dl dr da mp : D) (now term margin we wh wu fe fo : Int) : Mem := [(100000, .cells 42 [.int .i64 now, .int .i64 term, .int .i64 margin, .int .i64 we, .int .i64 wh, .int .i64 wu, .vec 0, .vec 1, .vec 2, .int .i64 fe, .int .i64 fo, .lb false]), (0, .arr 33 dl), (1, .arr 60 dr), (2, .arr 52 da), (100001, .mapD .i64 false [.int .i64] mp)]
noncomputable def feL (l : D) (j : Int) (mm : Mem) : Conf := Conf.mk (SFrm.mk 3 none none [Item.inLoop (cAt Try.prog 3 [1, 1, 1, 1, 0, 1, 0, 0]), Item.inBlock 0, Item.code (cAt Try.prog 3 [1, 1, 1, 1, 1])] (mkJ 0 [(7, .ptr 100000 0), (8, .bool true), (9, .mapp 100001), (29, .dat l), (30, .int .i64 (l.len : Int)), (31, .int .i64 j)] 0 105)) [] mm
noncomputable def backV (g : SFrm) (v : SV) (mm : Mem) : Conf := ⟨{ g with tmps := putS g.tmps g.await v, await := none }, [], mm⟩
noncomputable def feF (l : D) (j : Int) : SFrm := SFrm.mk 3 (some (opsAt Try.prog 3 [1, 1, 1, 1, 0, 1, 0, 0, 1, 1, 0, 0, 1, 0, 0], [3])) (some 37) [Item.code (cAt Try.prog 3 [1, 1, 1, 1, 0, 1, 0, 0, 1, 1, 0, 0, 1, 0, 1]), Item.code (cAt Try.prog 3 [1, 1, 1, 1, 0, 1, 0, 0, 1, 1, 0, 0, 1, 1]), Item.inBlock 1, Item.code (cAt Try.prog 3 [1, 1, 1, 1, 0, 1, 0, 0, 1, 1, 1]), Item.inLoop (cAt Try.prog 3 [1, 1, 1, 1, 0, 1, 0, 0]), Item.inBlock 0, Item.code (cAt Try.prog 3 [1, 1, 1, 1, 1])] (mkJ 0 [(7, .ptr 100000 0), (8, .bool true), (9, .mapp 100001), (11, .ptr 100002 0), (29, .dat l), (30, .int .i64 (l.len : Int)), (31, .int .i64 j)] 0 105)
section
variable (l dl dr da mp : D) (now term margin we wh wu fe fo j k si ww : Int)
theorem fe_go : execMR Try.prog ctT [3] [5, 6] [] 600 (unroll (feL l j (lzB dl dr da mp now term margin we wh wu fe fo))) =
 Tree.br (decide (j < (↑(D.len l) : Int)))
 (.need (0 ≤ j ∧ j < (↑(D.len l) : Int) ∧ D.sz l = 3)
 (.need (D.HasCells l (Int.toNat j) 0 [FT.int .i64, FT.int .i64, FT.int .i64])
 (.leaf
 (Conf.mk
 (SFrm.mk 5 none none [Item.code (cAt Try.prog 5 [])]
 (mkJ 1
 [(0, .ptr 100000 0),
 (1,
 .agg
 [.int .i64 (D.getInt l (Int.toNat j) 0), .int .i64 (D.getInt l (Int.toNat j) 1),
 .int .i64 (D.getInt l (Int.toNat j) 2)])]
 0 161))
 [SFrm.mk 3 (some (opsAt Try.prog 3 [1, 1, 1, 1, 0, 1, 0, 0, 1, 1, 0, 0, 1, 0, 0], [3])) (some 37)
 [Item.code (cAt Try.prog 3 [1, 1, 1, 1, 0, 1, 0, 0, 1, 1, 0, 0, 1, 0, 1]),
 Item.code (cAt Try.prog 3 [1, 1, 1, 1, 0, 1, 0, 0, 1, 1, 0, 0, 1, 1]), Item.inBlock 1,
 Item.code (cAt Try.prog 3 [1, 1, 1, 1, 0, 1, 0, 0, 1, 1, 1]),
 Item.inLoop (cAt Try.prog 3 [1, 1, 1, 1, 0, 1, 0, 0]), Item.inBlock 0,
 Item.code (cAt Try.prog 3 [1, 1, 1, 1, 1])]
 (mkJ 0
 [(7, .ptr 100000 0), (8, .bool true), (9, .mapp 100001), (11, .ptr 2 0), (29, .dat l),
 (30, .int .i64 (↑(D.len l) : Int)), (31, .int .i64 j)]
 0 105)]
 [(2,
 OBlk.cells 28
 [.int .i64 (D.getInt l (Int.toNat j) 0), .int .i64 (D.getInt l (Int.toNat j) 1),
 .int .i64 (D.getInt l (Int.toNat j) 2)]),
 (3, OBlk.arr 33 dl), (4, OBlk.arr 60 dr), (5, OBlk.arr 52 da),
 (100000,
 OBlk.cells 42
 [.int .i64 now, .int .i64 term, .int .i64 margin, .int .i64 we,
 .int .i64 wh, .int .i64 wu, .vec 3, .vec 4, .vec 5, .int .i64 fe,
 .int .i64 fo, .lb false]),
 (100001, OBlk.mapD .i64 false [FT.int .i64] mp)]))))
 (.leaf
 (Conf.mk (SFrm.mk 3 none none [Item.code (cAt Try.prog 3 [1, 1, 0, 1, 0, 1])] (mkJ 0 [(6, .bool true)] 0 105)) []
 [(1, OBlk.arr 33 dl), (2, OBlk.arr 60 dr), (3, OBlk.arr 52 da),
 (100000,
 OBlk.cells 42
 [.int .i64 now, .int .i64 term, .int .i64 margin, .int .i64 we,
 .int .i64 wh, .int .i64 wu, .vec 1, .vec 2, .vec 3, .int .i64 fe,
 .int .i64 fo, .lb false]),
 (100001, OBlk.mapD .i64 false [FT.int .i64] mp)])) := by kernel_rfl

theorem fe_k1 : execMR Try.prog ctT [3] [5, 6] [] 600 (backV (feF l j) (.lb true) (lzM dl dr da mp now term margin we wh wu fe fo k si ww)) =
 Tree.leaf
 (Conf.mk (SFrm.mk 6 none none [Item.code (cAt Try.prog 6 [])] (mkJ 1 [(0, .ptr 100000 0)] 0 30))
 [SFrm.mk 3 (some (opsAt Try.prog 3 [1, 1, 1, 1, 0, 1, 0, 0, 1, 1, 0, 0, 1, 1, 0], [2, 3, 4, 5, 6])) (some 41)
 [Item.code (cAt Try.prog 3 [1, 1, 1, 1, 0, 1, 0, 0, 1, 1, 0, 0, 1, 1, 1]), Item.inBlock 1,
 Item.code (cAt Try.prog 3 [1, 1, 1, 1, 0, 1, 0, 0, 1, 1, 1]),
 Item.inLoop (cAt Try.prog 3 [1, 1, 1, 1, 0, 1, 0, 0]), Item.inBlock 0,
 Item.code (cAt Try.prog 3 [1, 1, 1, 1, 1])]
 (mkJ 0
 [(7, .ptr 100000 0), (8, .bool true), (9, .mapp 100001), (11, .ptr 100002 0), (29, .dat l),
 (30, .int .i64 (↑(D.len l) : Int)), (31, .int .i64 j)]
 0 105)]
 [(3, OBlk.arr 33 dl), (4, OBlk.arr 60 dr), (5, OBlk.arr 52 da),
 (100000,
 OBlk.cells 42
 [.int .i64 now, .int .i64 term, .int .i64 margin, .int .i64 we,
 .int .i64 wh, .int .i64 wu, .vec 3, .vec 4, .vec 5, .int .i64 fe,
 .int .i64 fo, .lb false]),
 (100001, OBlk.mapD .i64 false [FT.int .i64] mp),
 (100002, OBlk.cells 28 [.int .i64 k, .int .i64 si, .int .i64 ww])]) := by kernel_rfl

end
end Go.Proofs.Ytanpcdcgkhbomaa
end
section
open Go Go.Proofs Sx
namespace Go.Proofs.Ytanpcdcgkhbomaa
set_option maxRecDepth 100000
set_option maxHeartbeats 0
noncomputable def feG (l : D) (j : Int) : SFrm := SFrm.mk 3 (some (opsAt Try.prog 3 [1, 1, 1, 1, 0, 1, 0, 0, 1, 1, 0, 0, 1, 1, 0], [2, 3, 4, 5, 6])) (some 41) [Item.code (cAt Try.prog 3 [1, 1, 1, 1, 0, 1, 0, 0, 1, 1, 0, 0, 1, 1, 1]), Item.inBlock 1, Item.code (cAt Try.prog 3 [1, 1, 1, 1, 0, 1, 0, 0, 1, 1, 1]), Item.inLoop (cAt Try.prog 3 [1, 1, 1, 1, 0, 1, 0, 0]), Item.inBlock 0, Item.code (cAt Try.prog 3 [1, 1, 1, 1, 1])] (mkJ 0 [(7, .ptr 100000 0), (8, .bool true), (9, .mapp 100001), (11, .ptr 100002 0), (29, .dat l), (30, .int .i64 (l.len : Int)), (31, .int .i64 j)] 0 105)
section
variable (l dl dr da mp : D) (now term margin we wh wu fe fo j k si ww n w : Int)
theorem fe_k2 : 
 let z3 : List SV := [.int .i64 now, .int .i64 term, .int .i64 margin, .int .i64 we, .int .i64 wh, .int .i64 wu, .vec 2, .vec 3, .vec 4, .int .i64 fe, .int .i64 fo, .lb false]
 let z4 := (D.getInt dl (Int.toNat w) 1)
 let z5 : List SV := [.int .i64 k, .int .i64 si, .int .i64 ww]
 let z6 := (cAt Try.prog 3 [1, 1, 1, 1, 0, 1, 0, 0])
 let z7 := (cAt Try.prog 3 [1, 1, 1, 1, 1])
 let z1 : Tree := (.leaf (Conf.mk (SFrm.mk 3 none none [Item.inLoop z6, Item.inBlock 0, Item.code z7] (mkJ 0 [(7, .ptr 100000 0), (8, .bool true), (9, .mapp 100001), (29, .dat l), (30, .int .i64 (↑(D.len l) : Int)), (31, .int .i64 (IntKind.wrap .i64 (j + 1)))] 0 105)) [] [(2, OBlk.arr 33 dl), (3, OBlk.arr 60 dr), (4, OBlk.arr 52 da), (100000, OBlk.cells 42 z3), (100001, OBlk.mapD .i64 false [FT.int .i64] mp), (100002, OBlk.cells 28 z5)]))
 let z2 : Tree := (.leaf (Conf.mk (SFrm.mk 3 none none [Item.code (cAt Try.prog 3 [1, 1, 1, 1, 0, 1, 0, 0, 1, 1, 0, 0, 1, 1, 1, 1, 1, 1, 1, 0]), Item.code (cAt Try.prog 3 [1, 1, 1, 1, 0, 1, 0, 0, 1, 1, 0, 0, 1, 1, 1, 1, 1, 1, 1, 1]), Item.inBlock 1, Item.code (cAt Try.prog 3 [1, 1, 1, 1, 0, 1, 0, 0, 1, 1, 1]), Item.inLoop z6, Item.inBlock 0, Item.code z7] (mkJ 0 [(7, .ptr 100000 0), (8, .bool true), (9, .mapp 100001), (14, .int .i64 z4), (29, .dat l), (30, .int .i64 (↑(D.len l) : Int)), (31, .int .i64 j)] 0 105)) [] [(2, OBlk.arr 33 dl), (3, OBlk.arr 60 dr), (4, OBlk.arr 52 da), (100000, OBlk.cells 42 z3), (100001, OBlk.mapD .i64 false [FT.int .i64] (D.putKey mp .i64 z4 [D.int .i64 w])), (100002, OBlk.cells 28 z5)]))
 execMR Try.prog ctT [3] [5, 6] [(3, 83)] 600 (backV (feG l j) (.tup [.int .i64 n, .int .i64 w]) (lzM dl dr da mp now term margin we wh wu fe fo k si ww)) =
 Tree.br (k != 5) z1 (.br (decide (w < 0)) z1 (.need ((3 : Int) ≠ 0) (.need ((3 : Int) ≠ 0) (.br (Int.tmod (IntKind.wrap .i64 (Int.tmod si 3 + 3)) 3 != w) z1 (.need (0 ≤ w ∧ w < (↑(D.len dl) : Int) ∧ D.sz dl = 3)
 (.need (D.HasCell dl (Int.toNat w) 1 (FT.int .i64) ∧ D.sz dl = 3) (.br (D.hasKey mp z4) (.br (D.getInt mp (D.keyIx mp z4) 1 != w) (.leaf (Conf.mk (SFrm.mk 3 none none [Item.code (cAt Try.prog 3 [1, 1, 0, 1, 0, 1]), Item.code
 (cAt Try.prog 3 [1, 1, 1, 1, 0, 1, 0, 0, 1, 1, 0, 0, 1, 1, 1, 1, 1, 1]), Item.inBlock 1, Item.code (cAt Try.prog 3 [1, 1, 1, 1, 0, 1, 0, 0, 1, 1, 1]), Item.inLoop z6, Item.inBlock 0, Item.code z7] (mkJ 0 [(6, .lb false)] 0 105)) [] [(1, OBlk.arr 33 dl),
 (2, OBlk.arr 60 dr), (3, OBlk.arr 52 da), (100000, OBlk.cells 42 [.int .i64 now, .int .i64 term, .int .i64 margin, .int .i64 we, .int .i64 wh, .int .i64 wu, .vec 1, .vec 2, .vec 3, .int .i64 fe, .int .i64 fo, .lb false]),
 (100001, OBlk.mapD .i64 false [FT.int .i64] mp), (100002, OBlk.cells 28 z5)])) z2) z2))))))) := by
 intros; kernel_rfl

end
end Go.Proofs.Ytanpcdcgkhbomaa
end
section
open Go Go.Proofs Sx
namespace Go.Proofs.Ytanpcdcgkhbomaa
set_option maxRecDepth 100000
set_option maxHeartbeats 0
noncomputable def feR (l : D) (e j : Int) (mm : Mem) : Conf := ⟨⟨3, none, none, [Item.code (cAt Try.prog 3 [1, 1, 1, 1, 0, 1, 0, 0, 1, 1, 0, 0, 1, 1, 1, 1, 1, 1, 1, 0]), Item.code (cAt Try.prog 3 [1, 1, 1, 1, 0, 1, 0, 0, 1, 1, 0, 0, 1, 1, 1, 1, 1, 1, 1, 1]), Item.inBlock 1, Item.code (cAt Try.prog 3 [1, 1, 1, 1, 0, 1, 0, 0, 1, 1, 1]), Item.inLoop (cAt Try.prog 3 [1, 1, 1, 1, 0, 1, 0, 0]), Item.inBlock 0, Item.code (cAt Try.prog 3 [1, 1, 1, 1, 1])], mkJ 0 [(7, .ptr 100000 0), (8, .bool true), (9, .mapp 100001), (14, .int .i64 e), (29, .dat l), (30, .int .i64 (l.len : Int)), (31, .int .i64 j)] 0 105⟩, [], mm⟩
section
variable (l dl dr da mp : D) (now term margin we wh wu fe fo j e : Int) (q i p : Nat)
theorem fe_r0 : execMR Try.prog ctT [3] [] [] 600 (feR l e j (lzB dl dr da mp now term margin we wh wu fe fo)) =
 Tree.leaf
 (Conf.mk
 (SFrm.mk 3 (some (opsAt Try.prog 3 [1, 1, 1, 1, 0, 1, 0, 0, 1, 1, 0, 0, 1, 1, 1, 1, 1, 1, 1, 0], [1])) none
 [Item.code (cAt Try.prog 3 [1, 1, 1, 1, 0, 1, 0, 0, 1, 1, 0, 0, 1, 1, 1, 1, 1, 1, 1, 1]), Item.inBlock 1,
 Item.code (cAt Try.prog 3 [1, 1, 1, 1, 0, 1, 0, 0, 1, 1, 1]),
 Item.inLoop (cAt Try.prog 3 [1, 1, 1, 1, 0, 1, 0, 0]), Item.inBlock 0,
 Item.code (cAt Try.prog 3 [1, 1, 1, 1, 1])]
 (mkJ 0
 [(7, .ptr 100000 0), (8, .bool true), (9, .mapp 100001), (14, .int .i64 e), (29, .dat l),
 (30, .int .i64 (↑(D.len l) : Int)), (31, .int .i64 j), (83, .mapp 100001)]
 0 105))
 []
 [(100000,
 OBlk.cells 42
 [.int .i64 now, .int .i64 term, .int .i64 margin, .int .i64 we,
 .int .i64 wh, .int .i64 wu, .vec 0, .vec 1, .vec 2, .int .i64 fe,
 .int .i64 fo, .lb false]),
 (0, OBlk.arr 33 dl), (1, OBlk.arr 60 dr), (2, OBlk.arr 52 da),
 (100001, OBlk.mapD .i64 false [FT.int .i64] mp)]) := by kernel_rfl

end
end Go.Proofs.Ytanpcdcgkhbomaa
end
section
open Go Go.Proofs Sx
namespace Go.Proofs.Ytanpcdcgkhbomaa
set_option maxRecDepth 100000
set_option maxHeartbeats 0
noncomputable def feRg (lst : List Nat) (T : List SV) (mm : Mem) : Conf := ⟨⟨3, some (opsAt Try.prog 3 [1, 1, 1, 1, 0, 1, 0, 0, 1, 1, 0, 0, 1, 1, 1, 1, 1, 1, 1, 0], lst), none, [Item.code (cAt Try.prog 3 [1, 1, 1, 1, 0, 1, 0, 0, 1, 1, 0, 0, 1, 1, 1, 1, 1, 1, 1, 1]), Item.inBlock 1, Item.code (cAt Try.prog 3 [1, 1, 1, 1, 0, 1, 0, 0, 1, 1, 1]), Item.inLoop (cAt Try.prog 3 [1, 1, 1, 1, 0, 1, 0, 0]), Item.inBlock 0, Item.code (cAt Try.prog 3 [1, 1, 1, 1, 1])], T⟩, [], mm⟩
noncomputable def feRgT (l : D) (e j : Int) : List SV := mkJ 0 [(7, .ptr 100000 0), (8, .bool true), (9, .mapp 100001), (14, .int .i64 e), (29, .dat l), (30, .int .i64 (l.len : Int)), (31, .int .i64 j), (83, .mapp 100001)] 0 105
section
variable (l dl dr da mp : D) (now term margin we wh wu fe fo j e : Int) (q i p : Nat)
theorem fe_r : execMR Try.prog ctT [3] [] [] 600 (feRg [] (putS (feRgT l e j) (some 84) (.raw (itV q))) (lzB dl dr da mp now term margin we wh wu fe fo)) =
 Tree.leaf
 (Conf.mk
 (SFrm.mk 3 none none
 [Item.inLoop (cAt Try.prog 3 [1, 1, 1, 1, 0, 1, 0, 0, 1, 1, 0, 0, 1, 1, 1, 1, 1, 1, 1, 1, 0, 0]), Item.inBlock 2,
 Item.inBlock 1, Item.code (cAt Try.prog 3 [1, 1, 1, 1, 0, 1, 0, 0, 1, 1, 1]),
 Item.inLoop (cAt Try.prog 3 [1, 1, 1, 1, 0, 1, 0, 0]), Item.inBlock 0,
 Item.code (cAt Try.prog 3 [1, 1, 1, 1, 1])]
 (mkJ 0
 [(7, .ptr 100000 0), (8, .bool true), (9, .mapp 100001), (14, .int .i64 e), (29, .dat l),
 (30, .int .i64 (↑(D.len l) : Int)), (31, .int .i64 j), (84, SV.raw (itV q))]
 0 105))
 []
 [(2, OBlk.arr 33 dl), (3, OBlk.arr 60 dr), (4, OBlk.arr 52 da),
 (100000,
 OBlk.cells 42
 [.int .i64 now, .int .i64 term, .int .i64 margin, .int .i64 we,
 .int .i64 wh, .int .i64 wu, .vec 2, .vec 3, .vec 4, .int .i64 fe,
 .int .i64 fo, .lb false]),
 (100001, OBlk.mapD .i64 false [FT.int .i64] mp)]) := by kernel_rfl

end
end Go.Proofs.Ytanpcdcgkhbomaa
end
section
open Go Go.Proofs Sx
namespace Go.Proofs.Ytanpcdcgkhbomaa
set_option maxRecDepth 100000
set_option maxHeartbeats 0
noncomputable def feM (l : D) (e j : Int) (q : Nat) (mm : Mem) : Conf := ⟨⟨3, none, none, Item.inLoop (cAt Try.prog 3 [1, 1, 1, 1, 0, 1, 0, 0, 1, 1, 0, 0, 1, 1, 1, 1, 1, 1, 1, 1, 0, 0]) :: Item.inBlock 2 :: [Item.inBlock 1, Item.code (cAt Try.prog 3 [1, 1, 1, 1, 0, 1, 0, 0, 1, 1, 1]), Item.inLoop (cAt Try.prog 3 [1, 1, 1, 1, 0, 1, 0, 0]), Item.inBlock 0, Item.code (cAt Try.prog 3 [1, 1, 1, 1, 1])], mkJ 0 [(7, .ptr 100000 0), (8, .bool true), (9, .mapp 100001), (14, .int .i64 e), (29, .dat l), (30, .int .i64 (l.len : Int)), (31, .int .i64 j), (84, .raw (itV q))] 0 105⟩, [], mm⟩
section
variable (l dl dr da mp : D) (now term margin we wh wu fe fo j e : Int) (q i p : Nat)
theorem fe_n : execMR Try.prog ctT [3] [] [] 600 (unroll (feM l e j q (lzB dl dr da mp now term margin we wh wu fe fo))) =
 Tree.leaf
 (Conf.mk
 (SFrm.mk 3 (some (opsAt Try.prog 3 [1, 1, 1, 1, 0, 1, 0, 0, 1, 1, 0, 0, 1, 1, 1, 1, 1, 1, 1, 1, 0, 0, 0], [0, 1]))
 none
 [Item.code (cAt Try.prog 3 [1, 1, 1, 1, 0, 1, 0, 0, 1, 1, 0, 0, 1, 1, 1, 1, 1, 1, 1, 1, 0, 0, 1]),
 Item.inLoop (cAt Try.prog 3 [1, 1, 1, 1, 0, 1, 0, 0, 1, 1, 0, 0, 1, 1, 1, 1, 1, 1, 1, 1, 0, 0]), Item.inBlock 2,
 Item.inBlock 1, Item.code (cAt Try.prog 3 [1, 1, 1, 1, 0, 1, 0, 0, 1, 1, 1]),
 Item.inLoop (cAt Try.prog 3 [1, 1, 1, 1, 0, 1, 0, 0]), Item.inBlock 0,
 Item.code (cAt Try.prog 3 [1, 1, 1, 1, 1])]
 (mkJ 0
 [(7, .ptr 100000 0), (8, .bool true), (9, .mapp 100001), (14, .int .i64 e), (29, .dat l),
 (30, .int .i64 (↑(D.len l) : Int)), (31, .int .i64 j), (84, SV.raw (itV q))]
 0 105))
 []
 [(100000,
 OBlk.cells 42
 [.int .i64 now, .int .i64 term, .int .i64 margin, .int .i64 we,
 .int .i64 wh, .int .i64 wu, .vec 0, .vec 1, .vec 2, .int .i64 fe,
 .int .i64 fo, .lb false]),
 (0, OBlk.arr 33 dl), (1, OBlk.arr 60 dr), (2, OBlk.arr 52 da),
 (100001, OBlk.mapD .i64 false [FT.int .i64] mp)]) := by kernel_rfl

end
end Go.Proofs.Ytanpcdcgkhbomaa
end
section
open Go Go.Proofs Sx
namespace Go.Proofs.Ytanpcdcgkhbomaa
set_option maxRecDepth 100000
set_option maxHeartbeats 0
noncomputable def feNxT (l : D) (e j : Int) (q : Nat) : List SV := mkJ 0 [(7, .ptr 100000 0), (8, .bool true), (9, .mapp 100001), (14, .int .i64 e), (29, .dat l), (30, .int .i64 (l.len : Int)), (31, .int .i64 j), (84, .raw (itV q))] 0 105
noncomputable def feNx (lst : List Nat) (T : List SV) (mm : Mem) : Conf := ⟨⟨3, some (opsAt Try.prog 3 [1, 1, 1, 1, 0, 1, 0, 0, 1, 1, 0, 0, 1, 1, 1, 1, 1, 1, 1, 1, 0, 0, 0], lst), none, Item.code (cAt Try.prog 3 [1, 1, 1, 1, 0, 1, 0, 0, 1, 1, 0, 0, 1, 1, 1, 1, 1, 1, 1, 1, 0, 0, 1]) :: Item.inLoop (cAt Try.prog 3 [1, 1, 1, 1, 0, 1, 0, 0, 1, 1, 0, 0, 1, 1, 1, 1, 1, 1, 1, 1, 0, 0]) :: Item.inBlock 2 :: [Item.inBlock 1, Item.code (cAt Try.prog 3 [1, 1, 1, 1, 0, 1, 0, 0, 1, 1, 1]), Item.inLoop (cAt Try.prog 3 [1, 1, 1, 1, 0, 1, 0, 0]), Item.inBlock 0, Item.code (cAt Try.prog 3 [1, 1, 1, 1, 1])], T⟩, [], mm⟩
section
variable (l dl dr da mp : D) (now term margin we wh wu fe fo j e : Int) (q i p : Nat)
theorem fe_o : execMR Try.prog ctT [3] [] [] 600 (feNx [1] (putS (feNxT l e j q) (some 85) (.tup [.lb false])) (lzB dl dr da mp now term margin we wh wu fe fo)) =
 Tree.leaf
 (Conf.mk
 (SFrm.mk 3 none none
 [Item.inLoop (cAt Try.prog 3 [1, 1, 1, 1, 0, 1, 0, 0]), Item.inBlock 0,
 Item.code (cAt Try.prog 3 [1, 1, 1, 1, 1])]
 (mkJ 0
 [(7, .ptr 100000 0), (8, .bool true), (9, .mapp 100001), (29, .dat l),
 (30, .int .i64 (↑(D.len l) : Int)), (31, .int .i64 (IntKind.wrap .i64 (j + 1)))]
 0 105))
 []
 [(2, OBlk.arr 33 dl), (3, OBlk.arr 60 dr), (4, OBlk.arr 52 da),
 (100000,
 OBlk.cells 42
 [.int .i64 now, .int .i64 term, .int .i64 margin, .int .i64 we,
 .int .i64 wh, .int .i64 wu, .vec 2, .vec 3, .vec 4, .int .i64 fe,
 .int .i64 fo, .lb false]),
 (100001, OBlk.mapD .i64 false [FT.int .i64] mp)]) := by kernel_rfl

theorem fe_e : execMR Try.prog ctT [3] [] [] 600 (feNx [1] (putS (feNxT l e j q) (some 85) (.tup [.lb true, .int .i64 (mp.getInt i 0), .int .i64 (mp.getInt i 1)])) (lzB dl dr da mp now term margin we wh wu fe fo)) =
 Tree.leaf
 (Conf.mk
 (SFrm.mk 3
 (some
 (opsAt Try.prog 3 [1, 1, 1, 1, 0, 1, 0, 0, 1, 1, 0, 0, 1, 1, 1, 1, 1, 1, 1, 1, 0, 0, 1, 1, 0, 0],
 [0, 1, 2, 3, 4]))
 none
 [Item.code (cAt Try.prog 3 [1, 1, 1, 1, 0, 1, 0, 0, 1, 1, 0, 0, 1, 1, 1, 1, 1, 1, 1, 1, 0, 0, 1, 1, 0, 1]),
 Item.inBlock 3, Item.inLoop (cAt Try.prog 3 [1, 1, 1, 1, 0, 1, 0, 0, 1, 1, 0, 0, 1, 1, 1, 1, 1, 1, 1, 1, 0, 0]),
 Item.inBlock 2, Item.inBlock 1, Item.code (cAt Try.prog 3 [1, 1, 1, 1, 0, 1, 0, 0, 1, 1, 1]),
 Item.inLoop (cAt Try.prog 3 [1, 1, 1, 1, 0, 1, 0, 0]), Item.inBlock 0,
 Item.code (cAt Try.prog 3 [1, 1, 1, 1, 1])]
 (mkJ 0
 [(7, .ptr 100000 0), (8, .bool true), (9, .mapp 100001), (14, .int .i64 e), (29, .dat l),
 (30, .int .i64 (↑(D.len l) : Int)), (31, .int .i64 j), (84, SV.raw (itV q)),
 (85, SV.tup [.lb true, .int .i64 (D.getInt mp i 0), .int .i64 (D.getInt mp i 1)]),
 (86, .lb true)]
 0 105))
 []
 [(100000,
 OBlk.cells 42
 [.int .i64 now, .int .i64 term, .int .i64 margin, .int .i64 we,
 .int .i64 wh, .int .i64 wu, .vec 0, .vec 1, .vec 2, .int .i64 fe,
 .int .i64 fo, .lb false]),
 (0, OBlk.arr 33 dl), (1, OBlk.arr 60 dr), (2, OBlk.arr 52 da),
 (100001, OBlk.mapD .i64 false [FT.int .i64] mp)]) := by kernel_rfl

end
end Go.Proofs.Ytanpcdcgkhbomaa
end
section
open Go Go.Proofs Sx
namespace Go.Proofs.Ytanpcdcgkhbomaa
set_option maxRecDepth 100000
set_option maxHeartbeats 0
noncomputable def feEnT (l mp : D) (e j : Int) (q i : Nat) : List SV := mkJ 0 [(7, .ptr 100000 0), (8, .bool true), (9, .mapp 100001), (14, .int .i64 e), (29, .dat l), (30, .int .i64 (l.len : Int)), (31, .int .i64 j), (84, .raw (itV q)), (85, .tup [.lb true, .int .i64 (mp.getInt i 0), .int .i64 (mp.getInt i 1)]), (86, .lb true)] 0 105
noncomputable def feEn (lst : List Nat) (T : List SV) (mm : Mem) : Conf := ⟨⟨3, some (opsAt Try.prog 3 [1, 1, 1, 1, 0, 1, 0, 0, 1, 1, 0, 0, 1, 1, 1, 1, 1, 1, 1, 1, 0, 0, 1, 1, 0, 0], lst), none, Item.code (cAt Try.prog 3 [1, 1, 1, 1, 0, 1, 0, 0, 1, 1, 0, 0, 1, 1, 1, 1, 1, 1, 1, 1, 0, 0, 1, 1, 0, 1]) :: Item.inBlock 3 :: Item.inLoop (cAt Try.prog 3 [1, 1, 1, 1, 0, 1, 0, 0, 1, 1, 0, 0, 1, 1, 1, 1, 1, 1, 1, 1, 0, 0]) :: Item.inBlock 2 :: [Item.inBlock 1, Item.code (cAt Try.prog 3 [1, 1, 1, 1, 0, 1, 0, 0, 1, 1, 1]), Item.inLoop (cAt Try.prog 3 [1, 1, 1, 1, 0, 1, 0, 0]), Item.inBlock 0, Item.code (cAt Try.prog 3 [1, 1, 1, 1, 1])], T⟩, [], mm⟩
section
variable (l dl dr da mp : D) (now term margin we wh wu fe fo j e : Int) (q i p : Nat)
theorem fe_b : execMR Try.prog ctT [3] [] [] 600 (feEn [1, 2, 3, 4] (putS (feEnT l mp e j q i) (some 87) (.tup [.int .i64 (mp.getInt p 0), .int .i64 (mp.getInt p 1)])) (lzB dl dr da mp now term margin we wh wu fe fo)) =
 Tree.br (decide (D.getInt mp p 0 < e))
 (.br (decide (admitI (fe, fo, false) (D.getInt mp p 0) (D.getInt mp p 1) = 0))
 (.leaf
 (Conf.mk
 (SFrm.mk 3 none none
 [Item.code (cAt Try.prog 3 [1, 1, 0, 1, 0, 1]), Item.inBlock 3,
 Item.inLoop (cAt Try.prog 3 [1, 1, 1, 1, 0, 1, 0, 0, 1, 1, 0, 0, 1, 1, 1, 1, 1, 1, 1, 1, 0, 0]),
 Item.inBlock 2, Item.inBlock 1, Item.code (cAt Try.prog 3 [1, 1, 1, 1, 0, 1, 0, 0, 1, 1, 1]),
 Item.inLoop (cAt Try.prog 3 [1, 1, 1, 1, 0, 1, 0, 0]), Item.inBlock 0,
 Item.code (cAt Try.prog 3 [1, 1, 1, 1, 1])]
 (mkJ 0 [(6, .lb false)] 0 105))
 []
 [(1, OBlk.arr 33 dl), (2, OBlk.arr 60 dr), (3, OBlk.arr 52 da),
 (100000,
 OBlk.cells 42
 [.int .i64 now, .int .i64 term, .int .i64 margin, .int .i64 we,
 .int .i64 wh, .int .i64 wu, .vec 1, .vec 2, .vec 3, .int .i64 fe,
 .int .i64 fo, .lb false]),
 (100001, OBlk.mapD .i64 false [FT.int .i64] mp)]))
 (.leaf
 (Conf.mk
 (SFrm.mk 3 none none
 [Item.inLoop (cAt Try.prog 3 [1, 1, 1, 1, 0, 1, 0, 0, 1, 1, 0, 0, 1, 1, 1, 1, 1, 1, 1, 1, 0, 0]),
 Item.inBlock 2, Item.inBlock 1, Item.code (cAt Try.prog 3 [1, 1, 1, 1, 0, 1, 0, 0, 1, 1, 1]),
 Item.inLoop (cAt Try.prog 3 [1, 1, 1, 1, 0, 1, 0, 0]), Item.inBlock 0,
 Item.code (cAt Try.prog 3 [1, 1, 1, 1, 1])]
 (mkJ 0
 [(7, .ptr 100000 0), (8, .bool true), (9, .mapp 100001), (14, .int .i64 e), (29, .dat l),
 (30, .int .i64 (↑(D.len l) : Int)), (31, .int .i64 j), (84, SV.raw (itV q))]
 0 105))
 []
 [(2, OBlk.arr 33 dl), (3, OBlk.arr 60 dr), (4, OBlk.arr 52 da),
 (100000,
 OBlk.cells 42
 [.int .i64 now, .int .i64 term, .int .i64 margin, .int .i64 we,
 .int .i64 wh, .int .i64 wu, .vec 2, .vec 3, .vec 4, .int .i64 fe,
 .int .i64 fo, .lb false]),
 (100001, OBlk.mapD .i64 false [FT.int .i64] mp)])))
 (.leaf
 (Conf.mk
 (SFrm.mk 3 none none
 [Item.inLoop (cAt Try.prog 3 [1, 1, 1, 1, 0, 1, 0, 0, 1, 1, 0, 0, 1, 1, 1, 1, 1, 1, 1, 1, 0, 0]),
 Item.inBlock 2, Item.inBlock 1, Item.code (cAt Try.prog 3 [1, 1, 1, 1, 0, 1, 0, 0, 1, 1, 1]),
 Item.inLoop (cAt Try.prog 3 [1, 1, 1, 1, 0, 1, 0, 0]), Item.inBlock 0,
 Item.code (cAt Try.prog 3 [1, 1, 1, 1, 1])]
 (mkJ 0
 [(7, .ptr 100000 0), (8, .bool true), (9, .mapp 100001), (14, .int .i64 e), (29, .dat l),
 (30, .int .i64 (↑(D.len l) : Int)), (31, .int .i64 j), (84, SV.raw (itV q))]
 0 105))
 []
 [(2, OBlk.arr 33 dl), (3, OBlk.arr 60 dr), (4, OBlk.arr 52 da),
 (100000,
 OBlk.cells 42
 [.int .i64 now, .int .i64 term, .int .i64 margin, .int .i64 we,
 .int .i64 wh, .int .i64 wu, .vec 2, .vec 3, .vec 4, .int .i64 fe,
 .int .i64 fo, .lb false]),
 (100001, OBlk.mapD .i64 false [FT.int .i64] mp)])) := by kernel_rfl

end
end Go.Proofs.Ytanpcdcgkhbomaa
end
section
open Go Go.Proofs Sx
namespace Sx
def WOk (mp : D) (fe fo : Int) : Prop := ∀ p, p < mp.len → mp.getInt p 0 ≤ fe ∧ (mp.getInt p 0 = fe → mp.getInt p 1 = fo)
theorem WOk.step {mp : D} {fe fo fe' fo' : Int} (h : WOk mp fe fo) (hr : (fe' = fe ∧ fo' = fo) ∨ fe < fe') : WOk mp fe' fo' := fun p hp => by
  obtain ⟨h1, h2⟩ := h p hp
  rcases hr with ⟨rfl, rfl⟩ | hr
  · exact ⟨h1, h2⟩
  · exact ⟨by omega, fun e => by omega⟩
theorem getInt_of {d : D} {i j : Nat} {r : List D} (h : d.rows[i]? = some r) {k : IntKind} {n : Int} (hj : r[j]? = some (.int k n)) : d.getInt i j = n := by simp [D.getInt, D.cellAt, h, hj]
theorem getInt_same {d d' : D} {i : Nat} (h : d'.rows[i]? = d.rows[i]?) (j : Nat) : d'.getInt i j = d.getInt i j := by simp only [D.getInt, D.cellAt, h]
theorem WOk.put {mp : D} {fe fo : Int} (h : WOk mp fe fo) : WOk (mp.putKey .i64 fe [.int .i64 fo]) fe fo := fun p hp => by
  obtain ⟨g1, g2⟩ := putKey_get mp .i64 fe [.int .i64 fo]
  cases hk : mp.hasKey fe with
  | true =>
    obtain ⟨p1, p2, p3⟩ := g1 hk
    by_cases hpi : p = mp.keyIx fe
    · rw [hpi, getInt_of p2 rfl, getInt_of (j := 1) p2 rfl]
      exact ⟨Int.le_refl _, fun _ => rfl⟩
    · rw [getInt_same (p3 p hpi), getInt_same (p3 p hpi)]
      exact h p (by rw [← p1]; exact hp)
  | false =>
    obtain ⟨p1, p2, p3⟩ := g2 hk
    by_cases hpl : p < mp.len
    · rw [getInt_same (p3 p hpl), getInt_same (p3 p hpl)]
      exact h p hpl
    · have : p = mp.len := by omega
      rw [this, getInt_of p2 rfl, getInt_of (j := 1) p2 rfl]
      exact ⟨Int.le_refl _, fun _ => rfl⟩
theorem meth25 {P : Program} {Φ : SV → Mem → Prop} {top g : SFrm} {w0 : World} {H : HV} {R : Value → World → Prop} {mem : Mem} (m' : Mem) (mv : List (Nat × Nat)) (ks : List Nat) (hm : ∀ (H : HV) (f : Nat → Nat), Runs P (@Ctx.mk w0 H (pinX f)) ⟨top, [], m'⟩ (RetP w0 H f Φ))
    (k : ∀ v m'', Φ v m'' → Runs P ⟨w0, H⟩ ⟨{ g with tmps := putS g.tmps g.await v, await := none }, [], m''⟩ R)
    (hto : (moveM mem mv).map (pickK ks) = some m') (hn : ks.Nodup) (hfx : (SV.fixedL top.tmps && [g].all fun f => SV.fixedL f.tmps) = true) (hgp : (g.tmps.all SV.pinned && ([] : List SFrm).all fun f => f.tmps.all SV.pinned) = true) :
    Runs P ⟨w0, H⟩ ⟨top, [g], mem⟩ R :=
  runs_to (MemTo.to mv ks hto hn) hfx (runs_meth hgp (fun H f _ => hm H f) k)
end Sx
namespace Go.Proofs.Ytanpcdcgkhbomaa
set_option maxRecDepth 100000
theorem ctTOk : Ctrs.Ok Try.prog ctT := by
  intro x hx
  rcases List.mem_cons.1 hx with rfl | hx
  · exact ctrOf_ok lawNewF
  · exact ctSOk x hx
theorem runsZ {C : Ctx} {R : Value → World → Prop} {top : SFrm} {mem m' : Mem} (h : Runs Try.prog C ⟨top, [], m'⟩ R) (hto : (moveM mem (mvOf 100000 [6, 7, 8] mem)).map (pickK [100000, 0, 1, 2, 100001]) = some m' := by kernel_rfl) (hp : (SV.fixedL top.tmps && ([] : List SFrm).all fun f => SV.fixedL f.tmps) = true := by kernel_rfl) :
    Runs Try.prog C ⟨top, [], mem⟩ R := runs_to (MemTo.to _ _ hto (by decide)) hp h
theorem fe_m {w : World} {H : HV} {R : Value → World → Prop} {l mp dl dr da : D} {now term margin we wh wu fe fo e j j' : Int} {q : Nat} {pb : Nat → Nat} (hlow : w.heap.size ≤ q)
    (hadm : ∀ p, p < mp.len → mp.getInt p 0 < e → ¬ admitI (fe, fo, false) (mp.getInt p 0) (mp.getInt p 1) = 0) (hw1 : IntKind.i64.wrap (j + 1) = j')
    (hL : Runs Try.prog ⟨w, H⟩ (feL l j' (lzB dl dr da mp now term margin we wh wu fe fo)) R) : ∀ (x : Nat) (seen : Array Nat), leftN mp.len seen ≤ x → Runs Try.prog (itC w H pb q (pb 100001) mp.len seen) (feM l e j q (lzB dl dr da mp now term margin we wh wu fe fo)) R
  | x, seen, hx => by
    refine unroll_sound rfl ?_
    apply execMR_sound ctTOk _ _ _ 600
    rw [fe_n]
    refine runs_mapNext (K := 100001) (kk := .i64) (ag := false) (ts := [.int .i64]) (d := mp) (x := .tmp 84) (dst := some 85) (by kernel_rfl) (by kernel_rfl) (by kernel_rfl) (by decide) hlow ?_ fun y i hy1 hy2 hi => ?_
    · refine runs_offIt (execMR_sound ctTOk [3] [] [] 600 (feNx [1] (putS (feNxT l e j q) (some 85) (.tup [.lb false])) (lzB dl dr da mp now term margin we wh wu fe fo)) ?_)
      rw [fe_o, hw1]
      exact runsZ hL
    · refine execMR_sound ctTOk [3] [] [] 600 (feNx [1] (putS (feNxT l e j q) (some 85) (.tup [.lb true, .int .i64 (mp.getInt i 0), .int .i64 (mp.getInt i 1)])) (lzB dl dr da mp now term margin we wh wu fe fo)) ?_
      rw [fe_e]
      refine runs_mapEntry (K := 100001) (kk := .i64) (ag := false) (ts := [.int .i64]) (d := mp) (x := .tmp 84) (dst := some 87) (by kernel_rfl) (by kernel_rfl) (by kernel_rfl) (by decide) hy1 fun p hp => ?_
      refine execMR_sound ctTOk [3] [] [] 600 (feEn [1, 2, 3, 4] (putS (feEnT l mp e j q i) (some 87) (.tup [.int .i64 (mp.getInt p 0), .int .i64 (mp.getInt p 1)])) (lzB dl dr da mp now term margin we wh wu fe fo)) ?_
      rw [fe_b]
      have hl := leftN_push hy1 hy2
      cases x with
      | zero => omega
      | succ x =>
        have ih := fe_m (pb := pb) hlow hadm hw1 hL x (seen.push y) (by omega)
        refine ⟨fun hc => ⟨fun ha => ?_, fun _ => runsZ ih⟩, fun _ => runsZ ih⟩
        exact absurd (of_decide_eq_true ha) (hadm p hp (of_decide_eq_true hc))
theorem fe_tail {w : World} {H : HV} {R : Value → World → Prop} {l mp dl dr da : D} {now term margin we wh wu fe fo j j' : Int} (hwo : WOk mp fe fo) (hw1 : IntKind.i64.wrap (j + 1) = j')
    (hL : Runs Try.prog ⟨w, H⟩ (feL l j' (lzB dl dr da mp now term margin we wh wu fe fo)) R) : Runs Try.prog ⟨w, H⟩ (feR l fe j (lzB dl dr da mp now term margin we wh wu fe fo)) R := by
  apply execMR_sound ctTOk _ _ _ 600
  rw [fe_r0]
  refine runs_mapRange (K := 100001) (kk := .i64) (ag := false) (ts := [.int .i64]) (d := mp) (t := 26) (x := .tmp 83) (dst := some 84) (kt := 3) (et := 3) (by kernel_rfl) (by kernel_rfl) (by kernel_rfl) (by kernel_rfl) fun pb q hq => ?_
  refine execMR_sound ctTOk [3] [] [] 600 (feRg [] (putS (feRgT l fe j) (some 84) (.raw (itV q))) (lzB dl dr da mp now term margin we wh wu fe fo)) ?_
  rw [fe_r]
  exact runsZ (fe_m hq (fun p hp hlt ha => by have := (admit_zero ha).1; simp only at this; omega) hw1 hL (leftN mp.len #[]) #[] (Nat.le_refl _))
theorem fe_loop {l : D} (hl : l.Is I3) (hlen : l.len ≤ 60) (w : World) (H : HV) : ∀ (q j : Nat) {s : Lz} {S : Int} {dl dr da mp : D}, j + q = l.len → FInv s S j → LzW dl dr da s → WOk mp s.fe s.fo →
    Runs Try.prog ⟨w, H⟩ (feL l j (lzB dl dr da mp s.now s.term s.margin s.we s.wh s.wu s.fe s.fo)) (RetS w H (.lb true))
  | 0, j, s, S, dl, dr, da, mp, hj, hI, hw, ho => by
    refine unroll_sound rfl ?_
    apply execMR_sound ctTOk _ _ _ 600
    rw [fe_go]
    exact ⟨fun h => absurd (of_decide_eq_true h) (by omega), fun _ => leaf_ret (f := Try.f3) (l := [.bool true]) (by kernel_rfl) (by kernel_rfl) (ret_S fun _ _ => by simp [SV.den, one?])⟩
  | q + 1, j, s, S, dl, dr, da, mp, hj, hI, hw, ho => by
    have hlt : j < (l.to I3).length := by rw [← D.Is.length (α := I3)]; omega
    obtain ⟨hcell, _⟩ := i3_cell hl hlt
    have hsz : l.sz = 3 := hl.size hlt
    obtain ⟨i, hi, hi3⟩ := idx3_bd (l.getInt j 1)
    refine unroll_sound rfl ?_
    apply execMR_sound ctTOk _ _ _ 600
    rw [fe_go]
    refine ⟨fun _ => ⟨⟨by omega, by omega, hsz⟩, hcell, ?_⟩, fun h => absurd (of_decide_eq_false h) (by omega)⟩
    refine pinO_to 2 100002 ⟨⟨5, none, none, [.code (cAt Try.prog 5 [])], mkJ 1 [(0, .ptr 100000 0), (1, .agg [.int .i64 (l.getInt j 0), .int .i64 (l.getInt j 1), .int .i64 (l.getInt j 2)])] 0 161⟩, [feF l j], [(100002, .cells 28 [.int .i64 (l.getInt j 0), .int .i64 (l.getInt j 1), .int .i64 (l.getInt j 2)]), (3, .arr 33 dl), (4, .arr 60 dr), (5, .arr 52 da), (100000, .cells 42 [.int .i64 s.now, .int .i64 s.term, .int .i64 s.margin, .int .i64 s.we, .int .i64 s.wh, .int .i64 s.wu, .vec 3, .vec 4, .vec 5, .int .i64 s.fe, .int .i64 s.fo, .lb false]), (100001, .mapD .i64 false [.int .i64] mp)]⟩ (by kernel_rfl) ?_
    refine meth25 (lzM dl dr da mp s.now s.term s.margin s.we s.wh s.wu s.fe s.fo (l.getInt j 0) (l.getInt j 1) (l.getInt j 2)) [(3, 5000), (4, 5001), (5, 5002), (5000, 0), (5001, 1), (5002, 2)] [100000, 0, 1, 2, 100001, 100002] (fun H f => step_law hI (by omega) hw (l.getInt j 0) (l.getInt j 1) (l.getInt j 2) hi hi3 w H f) ?_ (by kernel_rfl) (by decide) (by kernel_rfl) (by kernel_rfl)
    rintro v mm ⟨rfl, s', S', hI', ⟨dl', dr', da', hw', rfl⟩, hrel, h5⟩
    have ho' := ho.step hrel
    refine execMR_sound ctTOk [3] [5, 6] [] 600 (backV (feF l j) (.lb true) _) ?_
    rw [fe_k1]
    refine meth25 (g := feG l j) (lzM dl' dr' da' mp s'.now s'.term s'.margin s'.we s'.wh s'.wu s'.fe s'.fo (l.getInt j 0) (l.getInt j 1) (l.getInt j 2)) [(3, 5000), (4, 5001), (5, 5002), (5000, 0), (5001, 1), (5002, 2)] [100000, 0, 1, 2, 100001, 100002] (fun H f => hol_law hI' hw' (l.getInt j 0) (l.getInt j 1) (l.getInt j 2) w H f) ?_ (by kernel_rfl) (by decide) (by kernel_rfl) (by kernel_rfl)
    rintro v mm ⟨n, wh, rfl, rfl, hwho⟩
    refine execMR_sound ctTOk [3] [5, 6] [(3, 83)] 600 (backV (feG l j) (.tup [.int .i64 n, .int .i64 wh]) _) ?_
    rw [fe_k2, wrapj25 (by omega)]
    have ih : ∀ {mp : D}, WOk mp s'.fe s'.fo → Runs Try.prog ⟨w, H⟩ (feL l ((j + 1 : Nat) : Int) (lzB dl' dr' da' mp s'.now s'.term s'.margin s'.we s'.wh s'.wu s'.fe s'.fo)) (RetS w H (.lb true)) := fun ho => fe_loop hl hlen w H q (j + 1) (by omega) hI' hw' ho
    rw [hi]
    refine ⟨fun _ => runsZ (ih ho'), fun k5 => ⟨fun _ => runsZ (ih ho'), fun hw0 => ⟨by decide, by decide, fun _ => runsZ (ih ho'), fun hiw => ?_⟩⟩⟩
    have k5' : l.getInt j 0 = 5 := bne_eq_false_iff_eq.1 k5
    have hiw' : (i : Int) = wh := bne_eq_false_iff_eq.1 hiw
    subst hiw'
    obtain ⟨i', lz, e1, e2, e3⟩ : ∃ (i' : Nat) (l : I3), (i : Int) = (i' : Int) ∧ s'.ls[i']? = some l ∧ s'.now < l.c := by
      rcases hwho with hn | hn
      · exact absurd hn (by omega)
      · exact hn
    have e1' : i' = i := by omega
    subst e1'
    obtain ⟨f1, f2⟩ := h5 k5' lz e2 e3
    have hil : i' < (dl'.to I3).length := by rw [hw'.l.2.2]; exact (List.getElem?_eq_some_iff.1 e2).1
    obtain ⟨c0, c1, c2, c3⟩ := i3_cell hw'.l.1 hil
    have hle : (dl'.to I3)[i'] = lz := by apply Option.some.inj; rw [← List.getElem?_eq_getElem hil, hw'.l.2.2]; exact e2
    rw [hle] at c2
    have hdl : dl'.len = 3 := by rw [D.Is.length (α := I3), hw'.l.2.2]; exact hI'.len
    simp only [Int.toNat_natCast, c2, ← f1]
    have hput := ho'.put
    rw [f2] at hput
    have fin : Runs Try.prog ⟨w, H⟩ (feR l s'.fe j (lzB dl' dr' da' (mp.putKey .i64 s'.fe [.int .i64 (i' : Int)]) s'.now s'.term s'.margin s'.we s'.wh s'.wu s'.fe s'.fo)) (RetS w H (.lb true)) :=
      fe_tail (by rw [f2]; exact hput) (wrapj25 (by omega)) (ih (by rw [f2]; exact hput))
    refine ⟨⟨by omega, by omega, hw'.l.2.1⟩, ⟨c0.2.1, hw'.l.2.1⟩, fun hk => ⟨fun hb => ?_, fun _ => runsZ fin⟩, fun _ => runsZ fin⟩
    obtain ⟨k1, k2⟩ := keyIx_lt hk
    have := (ho' _ k1).2 k2
    rw [f2] at this
    rw [bne_iff_ne] at hb
    exact absurd this hb
end Go.Proofs.Ytanpcdcgkhbomaa
end
section
open Go Go.Proofs Sx
namespace Go.Proofs.Ytanpcdcgkhbomaa
set_option maxRecDepth 100000
set_option maxHeartbeats 0
section
variable (dl dr da mp : D) (now term margin we wh wu fe fo n w j k si ww : Int)
variable (a b : Int) (l : D) (hs : Nat → Nat → D) (hs_1 : Nat → Nat → D)
theorem rg1_in : 
 let z1 := (IntKind.wrap .i64 (0 + 1))
 execRX Try.prog ctT [] [] 600 (unroll (Conf.mk (SFrm.mk 4 none none [Item.inLoop (cAt Try.prog 4 [1, 1, 1, 0, 1, 0, 0]), Item.inBlock 0, Item.code (cAt Try.prog 4 [1, 1, 1, 1])] (mkJ 1 [(7, .int .i64 (newFI 0 0)), (8, .ptr 0 0), (25, .int .i64 (IntKind.wrap .i64 (0 + 1)))] 0 43)) [SFrm.mk 3 (some (opsAt Try.prog 3 [1, 0], [3, 4, 5, 6, 7])) (some 22) [Item.code (cAt Try.prog 3 [1, 1])] (mkU [(0, .int .u8 a), (1, .int .u8 b), (2, .dat l), (6, .lb false), (20, .int .u8 a), (21, .int .u8 b)] 0 105)] [(0, OBlk.cells 42 [.int .i64 0, .int .i64 (IntKind.wrap .i64 (Int.tmod (IntKind.wrap .i64 a) 12 + 1)), .int .i64 (Int.tmod (IntKind.wrap .i64 b) 4), .int .i64 0, .int .i64 (Int.neg 1), .int .i64 0, .vec 1, .nils, .nils, .int .i64 (zi (newFI 0 0 = 0) 0), .int .i64 (zi (newFI 0 0 = 0) 0), .lb false]), (1, OBlk.arr 33 (D.slc (D.hd (hs_1 0 0)) 3 (D.rows (D.slc (D.hd (hs 0 0)) 3 [[D.int .i64 0, D.int .i64 0, D.int .i64 0]]))))])) =
 Tree.br true (.all fun hs_2 => .need (D.sz (D.slc (D.hd (hs_1 0 0)) 3 (D.rows (D.slc (D.hd (hs 0 0)) 3 [[D.int .i64 0, D.int .i64 0, D.int .i64 0]]))) = 3 ∧ D.Fits (D.slc (D.hd (hs_2 0 0)) 3 [[D.int .i64 z1, D.int .i64 0, D.int .i64 0]]) 3 ∧
 (D.len (D.slc (D.hd (hs_1 0 0)) 3 (D.rows (D.slc (D.hd (hs 0 0)) 3 [[D.int .i64 0, D.int .i64 0, D.int .i64 0]]))) + D.len (D.slc (D.hd (hs_2 0 0)) 3 [[D.int .i64 z1, D.int .i64 0, D.int .i64 0]])) * 24 ≤ 140737488355328 ∧ D.len
 (D.slc (D.hd (hs_1 0 0)) 3 (D.rows (D.slc (D.hd (hs 0 0)) 3 [[D.int .i64 0, D.int .i64 0, D.int .i64 0]]))) + D.len (D.slc (D.hd (hs_2 0 0)) 3 [[D.int .i64 z1, D.int .i64 0, D.int .i64 0]]) ≤ 9223372036854775807)
 (.all fun hs_3 => .leaf (Conf.mk (SFrm.mk 4 none none [Item.inLoop (cAt Try.prog 4 [1, 1, 1, 0, 1, 0, 0]), Item.inBlock 0, Item.code (cAt Try.prog 4 [1, 1, 1, 1])] (mkJ 1 [(7, .int .i64 (newFI 0 0)), (8, .ptr 0 0),
 (25, .int .i64 (IntKind.wrap .i64 (IntKind.wrap .i64 (0 + 1) + 1)))] 0 43)) [SFrm.mk 3 (some (opsAt Try.prog 3 [1, 0], [3, 4, 5, 6, 7])) (some 22) [Item.code (cAt Try.prog 3 [1, 1])] (mkU [(0, .int .u8 a),
 (1, .int .u8 b), (2, .dat l), (6, .lb false), (20, .int .u8 a), (21, .int .u8 b)] 0 105)] [(0, OBlk.cells 42 [.int .i64 0, .int .i64 (IntKind.wrap .i64 (Int.tmod (IntKind.wrap .i64 a) 12 + 1)), .int .i64
 (Int.tmod (IntKind.wrap .i64 b) 4), .int .i64 0, .int .i64 (Int.neg 1), .int .i64 0, .vec 1, .nils, .nils, .int .i64 (zi (newFI 0 0 = 0) 0), .int .i64 (zi (newFI 0 0 = 0) 0), .lb false]), (1, OBlk.arr 33
 (D.slc (D.hd (hs_3 0 0)) 3 (List.append (D.rows (D.slc (D.hd (hs_1 0 0)) 3 (D.rows (D.slc (D.hd (hs 0 0)) 3 [[D.int .i64 0, D.int .i64 0, D.int .i64 0]])))) (D.rows (D.slc (D.hd (hs_2 0 0)) 3 [[D.int .i64 z1, D.int .i64 0, D.int .i64 0]])))))])))
 (.br (decide ((↑(D.len l) : Int) > 60)) (.leaf (Conf.mk (SFrm.mk 3 none none [Item.code (cAt Try.prog 3 [1, 1, 0, 1, 0, 1]), Item.code (cAt Try.prog 3 [1, 1, 1])] (mkJ 0 [(6, .lb true)] 0 105)) [] []))
 (.leaf (Conf.mk (SFrm.mk 3 none none [Item.inLoop (cAt Try.prog 3 [1, 1, 1, 1, 0, 1, 0, 0]), Item.inBlock 0, Item.code (cAt Try.prog 3 [1, 1, 1, 1, 1])] (mkJ 0 [(7, .ptr 0 0), (8, .bool true), (9, .mapp 1),
 (29, .dat l), (30, .int .i64 (↑(D.len l) : Int)), (31, .int .i64 0)] 0 105)) [] [(0, OBlk.cells 42 [.int .i64 0, .int .i64 (IntKind.wrap .i64 (Int.tmod (IntKind.wrap .i64 a) 12 + 1)), .int .i64 (Int.tmod
 (IntKind.wrap .i64 b) 4), .int .i64 0, .int .i64 (Int.neg 1), .int .i64 0, .vec 2, .nils, .nils, .int .i64 (zi (newFI 0 0 = 0) 0), .int .i64 (zi (newFI 0 0 = 0) 0), .lb false]), (1, OBlk.map []), (2, OBlk.arr 33
 (D.slc (D.hd (hs_1 0 0)) 3 (D.rows (D.slc (D.hd (hs 0 0)) 3 [[D.int .i64 0, D.int .i64 0, D.int .i64 0]]))))]))) := by
 intros; kernel_rfl

end
end Go.Proofs.Ytanpcdcgkhbomaa
end
section
open Go Go.Proofs Sx
namespace Go.Proofs.Ytanpcdcgkhbomaa
set_option maxRecDepth 100000
set_option maxHeartbeats 0
section
variable (dl dr da mp : D) (now term margin we wh wu fe fo n w j k si ww : Int)
variable (a b : Int) (l : D) (hs : Nat → Nat → D) (hs_1 : Nat → Nat → D) (hs_2 : Nat → Nat → D) (hs_3 : Nat → Nat → D)
theorem rg2_in : 
 let z1 := (IntKind.wrap .i64 (IntKind.wrap .i64 (0 + 1) + 1))
 let z2 := (IntKind.wrap .i64 (0 + 1))
 execRX Try.prog ctT [] [] 600 (unroll (Conf.mk (SFrm.mk 4 none none [Item.inLoop (cAt Try.prog 4 [1, 1, 1, 0, 1, 0, 0]), Item.inBlock 0, Item.code (cAt Try.prog 4 [1, 1, 1, 1])] (mkJ 1 [(7, .int .i64 (newFI 0 0)), (8, .ptr 0 0), (25, .int .i64 (IntKind.wrap .i64 (IntKind.wrap .i64 (0 + 1) + 1)))] 0 43)) [SFrm.mk 3 (some (opsAt Try.prog 3 [1, 0], [3, 4, 5, 6, 7])) (some 22) [Item.code (cAt Try.prog 3 [1, 1])] (mkU [(0, .int .u8 a), (1, .int .u8 b), (2, .dat l), (6, .lb false), (20, .int .u8 a), (21, .int .u8 b)] 0 105)] [(0, OBlk.cells 42 [.int .i64 0, .int .i64 (IntKind.wrap .i64 (Int.tmod (IntKind.wrap .i64 a) 12 + 1)), .int .i64 (Int.tmod (IntKind.wrap .i64 b) 4), .int .i64 0, .int .i64 (Int.neg 1), .int .i64 0, .vec 1, .nils, .nils, .int .i64 (zi (newFI 0 0 = 0) 0), .int .i64 (zi (newFI 0 0 = 0) 0), .lb false]), (1, OBlk.arr 33 (D.slc (D.hd (hs_3 0 0)) 3 (List.append (D.rows (D.slc (D.hd (hs_1 0 0)) 3 (D.rows (D.slc (D.hd (hs 0 0)) 3 [[D.int .i64 0, D.int .i64 0, D.int .i64 0]])))) (D.rows (D.slc (D.hd (hs_2 0 0)) 3 [[D.int .i64 (IntKind.wrap .i64 (0 + 1)), D.int .i64 0, D.int .i64 0]])))))])) =
 Tree.br true (.all fun hs_4 => .need (D.sz (D.slc (D.hd (hs_3 0 0)) 3 (List.append (D.rows (D.slc (D.hd (hs_1 0 0)) 3 (D.rows (D.slc (D.hd (hs 0 0)) 3 [[D.int .i64 0, D.int .i64 0, D.int .i64 0]])))) (D.rows
 (D.slc (D.hd (hs_2 0 0)) 3 [[D.int .i64 z2, D.int .i64 0, D.int .i64 0]])))) = 3 ∧ D.Fits (D.slc (D.hd (hs_4 0 0)) 3 [[D.int .i64 z1, D.int .i64 0, D.int .i64 0]]) 3 ∧ (D.len (D.slc (D.hd (hs_3 0 0)) 3
 (List.append (D.rows (D.slc (D.hd (hs_1 0 0)) 3 (D.rows (D.slc (D.hd (hs 0 0)) 3 [[D.int .i64 0, D.int .i64 0, D.int .i64 0]])))) (D.rows (D.slc (D.hd (hs_2 0 0)) 3 [[D.int .i64 z2, D.int .i64 0, D.int .i64 0]])))) + D.len
 (D.slc (D.hd (hs_4 0 0)) 3 [[D.int .i64 z1, D.int .i64 0, D.int .i64 0]])) * 24 ≤ 140737488355328 ∧ D.len (D.slc (D.hd (hs_3 0 0)) 3 (List.append (D.rows (D.slc (D.hd (hs_1 0 0)) 3 (D.rows (D.slc (D.hd
 (hs 0 0)) 3 [[D.int .i64 0, D.int .i64 0, D.int .i64 0]])))) (D.rows (D.slc (D.hd (hs_2 0 0)) 3 [[D.int .i64 z2, D.int .i64 0, D.int .i64 0]])))) + D.len (D.slc (D.hd (hs_4 0 0)) 3 [[D.int .i64 z1, D.int .i64 0, D.int .i64 0]]) ≤ 9223372036854775807)
 (.all fun hs_5 => .leaf (Conf.mk (SFrm.mk 4 none none [Item.inLoop (cAt Try.prog 4 [1, 1, 1, 0, 1, 0, 0]), Item.inBlock 0, Item.code (cAt Try.prog 4 [1, 1, 1, 1])] (mkJ 1 [(7, .int .i64 (newFI 0 0)), (8, .ptr 0 0),
 (25, .int .i64 (IntKind.wrap .i64 (IntKind.wrap .i64 (IntKind.wrap .i64 (0 + 1) + 1) + 1)))] 0 43)) [SFrm.mk 3 (some (opsAt Try.prog 3 [1, 0], [3, 4, 5, 6, 7])) (some 22) [Item.code (cAt Try.prog 3 [1, 1])]
 (mkU [(0, .int .u8 a), (1, .int .u8 b), (2, .dat l), (6, .lb false), (20, .int .u8 a), (21, .int .u8 b)] 0 105)] [(0, OBlk.cells 42 [.int .i64 0, .int .i64 (IntKind.wrap .i64 (Int.tmod (IntKind.wrap .i64 a) 12 + 1)), .int .i64
 (Int.tmod (IntKind.wrap .i64 b) 4), .int .i64 0, .int .i64 (Int.neg 1), .int .i64 0, .vec 1, .nils, .nils, .int .i64 (zi (newFI 0 0 = 0) 0), .int .i64 (zi (newFI 0 0 = 0) 0), .lb false]), (1, OBlk.arr 33
 (D.slc (D.hd (hs_5 0 0)) 3 (List.append (D.rows (D.slc (D.hd (hs_3 0 0)) 3 (List.append (D.rows (D.slc (D.hd (hs_1 0 0)) 3 (D.rows (D.slc (D.hd (hs 0 0)) 3 [[D.int .i64 0, D.int .i64 0, D.int .i64 0]]))))
 (D.rows (D.slc (D.hd (hs_2 0 0)) 3 [[D.int .i64 z2, D.int .i64 0, D.int .i64 0]]))))) (D.rows (D.slc (D.hd (hs_4 0 0)) 3 [[D.int .i64 z1, D.int .i64 0, D.int .i64 0]])))))]))) (.br (decide ((↑(D.len l) : Int) > 60))
 (.leaf (Conf.mk (SFrm.mk 3 none none [Item.code (cAt Try.prog 3 [1, 1, 0, 1, 0, 1]), Item.code (cAt Try.prog 3 [1, 1, 1])] (mkJ 0 [(6, .lb true)] 0 105)) [] [])) (.leaf (Conf.mk (SFrm.mk 3 none none [Item.inLoop
 (cAt Try.prog 3 [1, 1, 1, 1, 0, 1, 0, 0]), Item.inBlock 0, Item.code (cAt Try.prog 3 [1, 1, 1, 1, 1])] (mkJ 0 [(7, .ptr 0 0), (8, .bool true), (9, .mapp 1), (29, .dat l), (30, .int .i64 (↑(D.len l) : Int)),
 (31, .int .i64 0)] 0 105)) [] [(0, OBlk.cells 42 [.int .i64 0, .int .i64 (IntKind.wrap .i64 (Int.tmod (IntKind.wrap .i64 a) 12 + 1)), .int .i64 (Int.tmod (IntKind.wrap .i64 b) 4), .int .i64 0, .int .i64
 (Int.neg 1), .int .i64 0, .vec 2, .nils, .nils, .int .i64 (zi (newFI 0 0 = 0) 0), .int .i64 (zi (newFI 0 0 = 0) 0), .lb false]), (1, OBlk.map []), (2, OBlk.arr 33 (D.slc (D.hd (hs_3 0 0)) 3 (List.append
 (D.rows (D.slc (D.hd (hs_1 0 0)) 3 (D.rows (D.slc (D.hd (hs 0 0)) 3 [[D.int .i64 0, D.int .i64 0, D.int .i64 0]])))) (D.rows (D.slc (D.hd (hs_2 0 0)) 3 [[D.int .i64 z2, D.int .i64 0, D.int .i64 0]])))))]))) := by
 intros; kernel_rfl

end
end Go.Proofs.Ytanpcdcgkhbomaa
end
section
open Go Go.Proofs Sx
namespace Go.Proofs.Ytanpcdcgkhbomaa
set_option maxRecDepth 100000
set_option maxHeartbeats 0
section
variable (dl dr da mp : D) (now term margin we wh wu fe fo n w j k si ww : Int)
variable (a b : Int) (l : D) (hs : Nat → Nat → D) (hs_1 : Nat → Nat → D) (hs_2 : Nat → Nat → D) (hs_3 : Nat → Nat → D) (hs_4 : Nat → Nat → D) (hs_5 : Nat → Nat → D)
theorem rg3_in : 
 let z1 := (IntKind.wrap .i64 (IntKind.wrap .i64 (IntKind.wrap .i64 (0 + 1) + 1) + 1))
 let z2 := (IntKind.wrap .i64 (IntKind.wrap .i64 (0 + 1) + 1))
 let z3 := (IntKind.wrap .i64 (0 + 1))
 execRX Try.prog ctT [] [] 600 (unroll (Conf.mk (SFrm.mk 4 none none [Item.inLoop (cAt Try.prog 4 [1, 1, 1, 0, 1, 0, 0]), Item.inBlock 0, Item.code (cAt Try.prog 4 [1, 1, 1, 1])] (mkJ 1 [(7, .int .i64 (newFI 0 0)), (8, .ptr 0 0), (25, .int .i64 (IntKind.wrap .i64 (IntKind.wrap .i64 (IntKind.wrap .i64 (0 + 1) + 1) + 1)))] 0 43)) [SFrm.mk 3 (some (opsAt Try.prog 3 [1, 0], [3, 4, 5, 6, 7])) (some 22) [Item.code (cAt Try.prog 3 [1, 1])] (mkU [(0, .int .u8 a), (1, .int .u8 b), (2, .dat l), (6, .lb false), (20, .int .u8 a), (21, .int .u8 b)] 0 105)] [(0, OBlk.cells 42 [.int .i64 0, .int .i64 (IntKind.wrap .i64 (Int.tmod (IntKind.wrap .i64 a) 12 + 1)), .int .i64 (Int.tmod (IntKind.wrap .i64 b) 4), .int .i64 0, .int .i64 (Int.neg 1), .int .i64 0, .vec 1, .nils, .nils, .int .i64 (zi (newFI 0 0 = 0) 0), .int .i64 (zi (newFI 0 0 = 0) 0), .lb false]), (1, OBlk.arr 33 (D.slc (D.hd (hs_5 0 0)) 3 (List.append (D.rows (D.slc (D.hd (hs_3 0 0)) 3 (List.append (D.rows (D.slc (D.hd (hs_1 0 0)) 3 (D.rows (D.slc (D.hd (hs 0 0)) 3 [[D.int .i64 0, D.int .i64 0, D.int .i64 0]])))) (D.rows (D.slc (D.hd (hs_2 0 0)) 3 [[D.int .i64 (IntKind.wrap .i64 (0 + 1)), D.int .i64 0, D.int .i64 0]]))))) (D.rows (D.slc (D.hd (hs_4 0 0)) 3 [[D.int .i64 (IntKind.wrap .i64 (IntKind.wrap .i64 (0 + 1) + 1)), D.int .i64 0, D.int .i64 0]])))))])) =
 Tree.br false (.all fun hs_6 => .need (D.sz (D.slc (D.hd (hs_5 0 0)) 3 (List.append (D.rows (D.slc (D.hd (hs_3 0 0)) 3 (List.append (D.rows (D.slc (D.hd (hs_1 0 0)) 3 (D.rows (D.slc (D.hd (hs 0 0)) 3 [[D.int .i64 0, D.int .i64 0, D.int .i64 0]]))))
 (D.rows (D.slc (D.hd (hs_2 0 0)) 3 [[D.int .i64 z3, D.int .i64 0, D.int .i64 0]]))))) (D.rows (D.slc (D.hd (hs_4 0 0)) 3 [[D.int .i64 z2, D.int .i64 0, D.int .i64 0]])))) = 3 ∧ D.Fits (D.slc (D.hd (hs_6 0 0)) 3 [[D.int .i64 z1, D.int .i64 0, D.int .i64 0]]) 3 ∧
 (D.len (D.slc (D.hd (hs_5 0 0)) 3 (List.append (D.rows (D.slc (D.hd (hs_3 0 0)) 3 (List.append (D.rows (D.slc (D.hd (hs_1 0 0)) 3 (D.rows (D.slc (D.hd (hs 0 0)) 3 [[D.int .i64 0, D.int .i64 0, D.int .i64 0]]))))
 (D.rows (D.slc (D.hd (hs_2 0 0)) 3 [[D.int .i64 z3, D.int .i64 0, D.int .i64 0]]))))) (D.rows (D.slc (D.hd (hs_4 0 0)) 3 [[D.int .i64 z2, D.int .i64 0, D.int .i64 0]])))) + D.len (D.slc (D.hd (hs_6 0 0)) 3 [[D.int .i64 z1, D.int .i64 0, D.int .i64 0]])) * 24 ≤ 140737488355328 ∧ D.len
 (D.slc (D.hd (hs_5 0 0)) 3 (List.append (D.rows (D.slc (D.hd (hs_3 0 0)) 3 (List.append (D.rows (D.slc (D.hd (hs_1 0 0)) 3 (D.rows (D.slc (D.hd (hs 0 0)) 3 [[D.int .i64 0, D.int .i64 0, D.int .i64 0]]))))
 (D.rows (D.slc (D.hd (hs_2 0 0)) 3 [[D.int .i64 z3, D.int .i64 0, D.int .i64 0]]))))) (D.rows (D.slc (D.hd (hs_4 0 0)) 3 [[D.int .i64 z2, D.int .i64 0, D.int .i64 0]])))) + D.len (D.slc (D.hd (hs_6 0 0)) 3 [[D.int .i64 z1, D.int .i64 0, D.int .i64 0]]) ≤ 9223372036854775807)
 (.all fun hs_7 => .leaf (Conf.mk (SFrm.mk 4 none none [Item.inLoop (cAt Try.prog 4 [1, 1, 1, 0, 1, 0, 0]), Item.inBlock 0, Item.code (cAt Try.prog 4 [1, 1, 1, 1])] (mkJ 1 [(7, .int .i64 (newFI 0 0)), (8, .ptr 0 0),
 (25, .int .i64 (IntKind.wrap .i64 (IntKind.wrap .i64 (IntKind.wrap .i64 (IntKind.wrap .i64 (0 + 1) + 1) + 1) + 1)))] 0 43)) [SFrm.mk 3 (some (opsAt Try.prog 3 [1, 0], [3, 4, 5, 6, 7])) (some 22) [Item.code
 (cAt Try.prog 3 [1, 1])] (mkU [(0, .int .u8 a), (1, .int .u8 b), (2, .dat l), (6, .lb false), (20, .int .u8 a), (21, .int .u8 b)] 0 105)] [(0, OBlk.cells 42 [.int .i64 0, .int .i64 (IntKind.wrap .i64 (Int.tmod
 (IntKind.wrap .i64 a) 12 + 1)), .int .i64 (Int.tmod (IntKind.wrap .i64 b) 4), .int .i64 0, .int .i64 (Int.neg 1), .int .i64 0, .vec 1, .nils, .nils, .int .i64 (zi (newFI 0 0 = 0) 0), .int .i64 (zi (newFI 0 0 = 0) 0), .lb false]),
 (1, OBlk.arr 33 (D.slc (D.hd (hs_7 0 0)) 3 (List.append (D.rows (D.slc (D.hd (hs_5 0 0)) 3 (List.append (D.rows (D.slc (D.hd (hs_3 0 0)) 3 (List.append (D.rows (D.slc (D.hd (hs_1 0 0)) 3 (D.rows (D.slc
 (D.hd (hs 0 0)) 3 [[D.int .i64 0, D.int .i64 0, D.int .i64 0]])))) (D.rows (D.slc (D.hd (hs_2 0 0)) 3 [[D.int .i64 z3, D.int .i64 0, D.int .i64 0]]))))) (D.rows (D.slc (D.hd (hs_4 0 0)) 3 [[D.int .i64 z2, D.int .i64 0, D.int .i64 0]])))))
 (D.rows (D.slc (D.hd (hs_6 0 0)) 3 [[D.int .i64 z1, D.int .i64 0, D.int .i64 0]])))))]))) (.br (decide ((↑(D.len l) : Int) > 60)) (.leaf (Conf.mk (SFrm.mk 3 none none [Item.code (cAt Try.prog 3 [1, 1, 0, 1, 0, 1]), Item.code
 (cAt Try.prog 3 [1, 1, 1])] (mkJ 0 [(6, .lb true)] 0 105)) [] [])) (.leaf (Conf.mk (SFrm.mk 3 none none [Item.inLoop (cAt Try.prog 3 [1, 1, 1, 1, 0, 1, 0, 0]), Item.inBlock 0, Item.code (cAt Try.prog 3 [1, 1, 1, 1, 1])]
 (mkJ 0 [(7, .ptr 0 0), (8, .bool true), (9, .mapp 1), (29, .dat l), (30, .int .i64 (↑(D.len l) : Int)), (31, .int .i64 0)] 0 105)) [] [(0, OBlk.cells 42 [.int .i64 0, .int .i64 (IntKind.wrap .i64 (Int.tmod
 (IntKind.wrap .i64 a) 12 + 1)), .int .i64 (Int.tmod (IntKind.wrap .i64 b) 4), .int .i64 0, .int .i64 (Int.neg 1), .int .i64 0, .vec 2, .nils, .nils, .int .i64 (zi (newFI 0 0 = 0) 0), .int .i64 (zi (newFI 0 0 = 0) 0), .lb false]),
 (1, OBlk.map []), (2, OBlk.arr 33 (D.slc (D.hd (hs_5 0 0)) 3 (List.append (D.rows (D.slc (D.hd (hs_3 0 0)) 3 (List.append (D.rows (D.slc (D.hd (hs_1 0 0)) 3 (D.rows (D.slc (D.hd (hs 0 0)) 3 [[D.int .i64 0, D.int .i64 0, D.int .i64 0]]))))
 (D.rows (D.slc (D.hd (hs_2 0 0)) 3 [[D.int .i64 z3, D.int .i64 0, D.int .i64 0]]))))) (D.rows (D.slc (D.hd (hs_4 0 0)) 3 [[D.int .i64 z2, D.int .i64 0, D.int .i64 0]])))))]))) := by
 intros; kernel_rfl

end
end Go.Proofs.Ytanpcdcgkhbomaa
end
section
open Go Go.Proofs Sx
namespace Sx
def rdU8f : Rd1 Int where
  read x := match x with | .int .u8 n => some n | _ => none
  canon n := .int .u8 n
  right H E x b h hok := by
    split at h
    · cases h; exact ⟨rfl, trivial⟩
    · cases h
def spFence (x : Int × Int × D) : SpecR := .scalar [x.2.2.Is I3 ∧ 0 ≤ x.1 ∧ x.1 ≤ 1000 ∧ 0 ≤ x.2.1 ∧ x.2.1 ≤ 1000] (.lb true)
def beginF (e1 e2 : TypeId) (c : Conf) : Option Conf :=
  ((((mapIn 1 .i64 false [.int .i64] c).bind (pinOC 0 100000)).bind (pinOC 1 100001)).bind (vecIn 3 e1 9 (some 100000) 7)).bind (vecIn 4 e2 8 (some 100000) 8)
theorem beginF_to {P : Program} {C : Ctx} {R : Value → World → Prop} (e1 e2 : TypeId) {c : Conf} (c' : Conf) (hc : beginF e1 e2 c = some c') (h : Runs P C c' R) (hpn : C.x.pn = none := by rfl) : Runs P C c R := by
  unfold beginF at hc
  simp only [Option.bind_eq_some_iff] at hc
  obtain ⟨c4, ⟨c3, ⟨c2, ⟨c1, h1, h2⟩, h3⟩, h4⟩, h5⟩ := hc
  exact mapIn_to 1 .i64 false [.int .i64] c1 h1 (pinO_to 0 100000 c2 h2 (pinO_to 1 100001 c3 h3 (vecIn_sound h4 (vecIn_sound h5 h)) hpn) hpn)
def lz0 (term margin : Int) : Lz := ⟨0, term, margin, 0, -1, 0, 0, 0, [⟨0, 0, 0⟩, ⟨1, 0, 0⟩, ⟨2, 0, 0⟩], [], []⟩
theorem inv0 {term margin : Int} (h1 : 1 ≤ term ∧ term ≤ 12) (h2 : 0 ≤ margin ∧ margin ≤ 3) : FInv (lz0 term margin) 1 0 := by
  refine ⟨by decide, ⟨by simp [lz0], by simp [lz0]⟩, h1, h2, rfl, Nat.le_refl _, Nat.le_refl _, fun i l hl => ?_, ⟨by simp [lz0], by simp [lz0]⟩, ⟨by simp [lz0], by show (0 : Int) ≤ 0 + term; omega⟩, .inl rfl, ⟨by simp [lz0], by simp [lz0], by simp [lz0], by simp [lz0]⟩, fun n r hr => by simp [lz0] at hr, fun m hm => by simp [lz0] at hm, fun i l hl => ?_, ⟨by simp [lz0], fun h => absurd rfl h⟩, .inl (by simp [lz0])⟩
  all_goals
    simp only [lz0] at hl
    match i, hl with
    | 0, hl => cases hl; simp [lz0]
    | 1, hl => cases hl; simp [lz0]
    | 2, hl => cases hl; simp [lz0]
theorem ls0 (h : Hd) : (D.slc h 3 [[.int .i64 0, .int .i64 0, .int .i64 0], [.int .i64 1, .int .i64 0, .int .i64 0], [.int .i64 2, .int .i64 0, .int .i64 0]]).Is I3 ∧ (D.slc h 3 [[.int .i64 0, .int .i64 0, .int .i64 0], [.int .i64 1, .int .i64 0, .int .i64 0], [.int .i64 2, .int .i64 0, .int .i64 0]]).to I3 = [⟨0, 0, 0⟩, ⟨1, 0, 0⟩, ⟨2, 0, 0⟩] :=
  ⟨is_rows rfl fun r hr => by
    simp only [List.mem_cons, List.not_mem_nil, or_false] at hr
    rcases hr with rfl | rfl | rfl <;> exact ⟨_, _, _, rfl⟩, rfl⟩
end Sx
namespace Go.Proofs.Ytanpcdcgkhbomaa
set_option maxRecDepth 100000
theorem lawFence : Law Try.prog 3 ((rdU8f.three rdU8f rdD).sp spFence) := by
  refine law_in _ (by kernel_rfl) fun H w ⟨a, b, l⟩ hok hp => ?_
  obtain ⟨hl, ha0, ha1, hb0, hb1⟩ := hp _ (List.mem_singleton.2 rfl)
  simp only at hl ha0 ha1 hb0 hb1
  apply execRX_sound ctTOk [] [] 600
  rw [show (rdU8f.three rdU8f rdD).canon (a, b, l) = [.int .u8 a, .int .u8 b, .dat l] from rfl, ta_in]
  refine fun hs0 => ⟨by decide, by decide, ?_⟩
  refine unroll_sound rfl ?_
  apply execRX_sound ctTOk [] [] 600
  rw [rg0_in]
  refine ⟨fun _ hs1 => ⟨⟨.inr rfl, Nat.le_of_ble_eq_true rfl, Nat.le_of_ble_eq_true rfl⟩, fun hs2 => ?_⟩, fun h => nomatch h⟩
  refine unroll_sound rfl ?_
  apply execRX_sound ctTOk [] [] 600
  rw [rg1_in]
  refine ⟨fun _ hs3 => ⟨⟨rfl, .inr rfl, Nat.le_of_ble_eq_true rfl, Nat.le_of_ble_eq_true rfl⟩, fun hs4 => ?_⟩, fun h => nomatch h⟩
  refine unroll_sound rfl ?_
  apply execRX_sound ctTOk [] [] 600
  rw [rg2_in]
  refine ⟨fun _ hs5 => ⟨⟨rfl, .inr rfl, Nat.le_of_ble_eq_true rfl, Nat.le_of_ble_eq_true rfl⟩, fun hs6 => ?_⟩, fun h => nomatch h⟩
  refine unroll_sound rfl ?_
  apply execRX_sound ctTOk [] [] 600
  rw [rg3_in]
  refine ⟨(fun h => nomatch h), fun _ => ⟨fun _ => ?_, fun hlen => ?_⟩⟩
  · exact leaf_ret (f := Try.f3) (l := [.lb true]) (by kernel_rfl) (by kernel_rfl) ret_lbt
  · have hlen : l.len ≤ 60 := by have := of_decide_eq_false hlen; omega
    have wa : IntKind.i64.wrap a = a := wrap64J (by omega) (by omega)
    have wb : IntKind.i64.wrap b = b := wrap64J (by omega) (by omega)
    have ta : 0 ≤ Int.tmod a 12 ∧ Int.tmod a 12 < 12 := ⟨Int.tmod_nonneg _ ha0, Int.tmod_lt_of_pos _ (by decide)⟩
    have tb : 0 ≤ Int.tmod b 4 ∧ Int.tmod b 4 < 4 := ⟨Int.tmod_nonneg _ hb0, Int.tmod_lt_of_pos _ (by decide)⟩
    have wt : IntKind.i64.wrap (Int.tmod (IntKind.i64.wrap a) 12 + 1) = Int.tmod a 12 + 1 := by rw [wa, wrap64J (by omega) (by omega)]
    rw [wt, wb]
    refine beginF_to 60 52 (feL l 0 [(4, .arr 52 (.slc none 8 [])), (3, .arr 60 (.slc none 9 [])), (100000, .cells 42 [.int .i64 0, .int .i64 (Int.tmod a 12 + 1), .int .i64 (Int.tmod b 4), .int .i64 0, .int .i64 (-1), .int .i64 0, .vec 2, .vec 3, .vec 4, .int .i64 0, .int .i64 0, .lb false]), (100001, .mapD .i64 false [.int .i64] (.slc none 0 [])),
      (2, .arr 33 (.slc (D.hd (hs6 0 0)) 3 [[.int .i64 0, .int .i64 0, .int .i64 0], [.int .i64 1, .int .i64 0, .int .i64 0], [.int .i64 2, .int .i64 0, .int .i64 0]]))]) (by kernel_rfl) ?_
    obtain ⟨g1, g2⟩ := ls0 (D.hd (hs6 0 0))
    have hw : LzW (.slc (D.hd (hs6 0 0)) 3 [[.int .i64 0, .int .i64 0, .int .i64 0], [.int .i64 1, .int .i64 0, .int .i64 0], [.int .i64 2, .int .i64 0, .int .i64 0]]) (.slc none 9 []) (.slc none 8 []) (lz0 (Int.tmod a 12 + 1) (Int.tmod b 4)) := ⟨⟨g1, rfl, g2⟩, ⟨is_nil _ _, rfl, rfl⟩, ⟨is_nil _ _, rfl, rfl⟩⟩
    exact runsZ (fe_loop (mp := .slc none 0 []) hl hlen w H l.len 0 (by omega) (inv0 ⟨by omega, by omega⟩ ⟨by omega, by omega⟩) hw fun p hp => absurd hp (by simp [D.len, D.rows]))
end Go.Proofs.Ytanpcdcgkhbomaa
end
