/- Layer 41: CascadeKeeps, its loop, walked. -/
import Derived.KernelRfl
import Derived.Test.YtllmgnhjljmihaaQftoMj
import Derived.Test.YtllmgnhjljmihaaN33toVT178
set_option linter.all false
set_option maxRecDepth 100000
set_option maxHeartbeats 0
noncomputable section
open Go Go.Proofs Sx
namespace Sv
def ctKe : Ctrs := [(25,ctrOf ((rdD.two rdCy).sp spCyA)),(26,ctrOf ((rdD.two rdD).sp spSameI)),(13,ctrOf (rdNone.sp spTrue))]
def keL (l : D) (j : Int) (mm : Mem) : Conf := Conf.mk (SFrm.mk 6 none none [Item.inLoop (cA 6 [1,1,1,0,1,0,0]),Item.inBlock 0,Item.code (cA 6 [1,1,1,1])] (mkJ 0 [(3,.ptr 100000 0),(27,.dat l),(28,.int .i64 (l.len : Int)),(29,.int .i64 j)] 0 87)) [] mm
section
variable (l o k nv m im st tf tn : D) (r : Rl) (far : Tgt) (lo n : Nat) (num j : Int)
theorem keA_go : execRE Try.prog ctKe [24] 400 (unroll (keL l j (sysM o k nv m im tf tn r far num (.view 0 5 lo n) [(0,.arr 65 st)]))) =
 Tree.br (decide (j < (↑(D.len l) : Int)))
 (.need (0 ≤ j ∧ j < (↑(D.len l) : Int) ∧ D.sz l = 3)
 (.need (D.HasCells l (Int.toNat j) 0 [FT.int .i64,FT.int .i64,FT.int .u8])
 (.leaf
 (Conf.mk
 (SFrm.mk 24 none none [Item.code (cA 24 [])]
 (mkJ 1
 [(0,.ptr 100000 0),
 (1,
 .agg
 [.int .i64 (D.getInt l (Int.toNat j) 0),.int .i64 (D.getInt l (Int.toNat j) 1),
 .int .u8 (D.getInt l (Int.toNat j) 2)])]
 0 105))
 [SFrm.mk 6 (some (oA 6 [1,1,1,0,1,0,0,1,1,0,0,1,0,0],[3])) (some 35)
 [Item.code (cA 6 [1,1,1,0,1,0,0,1,1,0,0,1,0,1]),
 Item.code (cA 6 [1,1,1,0,1,0,0,1,1,0,0,1,1]),Item.inBlock 1,
 Item.code (cA 6 [1,1,1,0,1,0,0,1,1,1]),
 Item.inLoop (cA 6 [1,1,1,0,1,0,0]),Item.inBlock 0,
 Item.code (cA 6 [1,1,1,1])]
 (mkJ 0
 [(3,.ptr 100000 0),(27,.dat l),(28,.int .i64 (↑(D.len l) : Int)),
 (29,.int .i64 j)]
 0 87)]
 [(2,OBlk.arr 65 st),(3,OBlk.arr 72 tf),(4,OBlk.arr 72 tn),
 (100000,
 OBlk.cells 62 (sC o k r nv far im (.view 2 5 lo n) (.vec 3) (.vec 4) num)),
 (100001,OBlk.mapD .i64 false [FT.slc] m)]))))
 (.leaf
 (Conf.mk (SFrm.mk 6 none none [Item.code (cA 6 [1,1,0,1,0,1])] (mkJ 0 [(2,.lb true)] 0 87)) []
 [(2,OBlk.arr 65 st),(3,OBlk.arr 72 tf),(4,OBlk.arr 72 tn),
 (100000,
 OBlk.cells 62 (sC o k r nv far im (.view 2 5 lo n) (.vec 3) (.vec 4) num)),
 (100001,OBlk.mapD .i64 false [FT.slc] m)])) := by kernel_rfl
theorem keB_go : execRE Try.prog ctKe [24] 400 (unroll (keL l j (sysM o k nv m im tf tn r far num (.dat st) []))) =
 Tree.br (decide (j < (↑(D.len l) : Int)))
 (.need (0 ≤ j ∧ j < (↑(D.len l) : Int) ∧ D.sz l = 3)
 (.need (D.HasCells l (Int.toNat j) 0 [FT.int .i64,FT.int .i64,FT.int .u8])
 (.leaf
 (Conf.mk
 (SFrm.mk 24 none none [Item.code (cA 24 [])]
 (mkJ 1
 [(0,.ptr 100000 0),
 (1,
 .agg
 [.int .i64 (D.getInt l (Int.toNat j) 0),.int .i64 (D.getInt l (Int.toNat j) 1),
 .int .u8 (D.getInt l (Int.toNat j) 2)])]
 0 105))
 [SFrm.mk 6 (some (oA 6 [1,1,1,0,1,0,0,1,1,0,0,1,0,0],[3])) (some 35)
 [Item.code (cA 6 [1,1,1,0,1,0,0,1,1,0,0,1,0,1]),
 Item.code (cA 6 [1,1,1,0,1,0,0,1,1,0,0,1,1]),Item.inBlock 1,
 Item.code (cA 6 [1,1,1,0,1,0,0,1,1,1]),
 Item.inLoop (cA 6 [1,1,1,0,1,0,0]),Item.inBlock 0,
 Item.code (cA 6 [1,1,1,1])]
 (mkJ 0
 [(3,.ptr 100000 0),(27,.dat l),(28,.int .i64 (↑(D.len l) : Int)),
 (29,.int .i64 j)]
 0 87)]
 [(2,OBlk.arr 72 tf),(3,OBlk.arr 72 tn),
 (100000,
 OBlk.cells 62 (sC o k r nv far im (.dat st) (.vec 2) (.vec 3) num)),
 (100001,OBlk.mapD .i64 false [FT.slc] m)]))))
 (.leaf
 (Conf.mk (SFrm.mk 6 none none [Item.code (cA 6 [1,1,0,1,0,1])] (mkJ 0 [(2,.lb true)] 0 87)) []
 [(2,OBlk.arr 72 tf),(3,OBlk.arr 72 tn),
 (100000,
 OBlk.cells 62 (sC o k r nv far im (.dat st) (.vec 2) (.vec 3) num)),
 (100001,OBlk.mapD .i64 false [FT.slc] m)])) := by kernel_rfl
end
def keF (l : D) (j : Int) : SFrm := SFrm.mk 6 (some (oA 6 [1,1,1,0,1,0,0,1,1,0,0,1,0,0],[3])) (some 35) [Item.code (cA 6 [1,1,1,0,1,0,0,1,1,0,0,1,0,1]),Item.code (cA 6 [1,1,1,0,1,0,0,1,1,0,0,1,1]),Item.inBlock 1,Item.code (cA 6 [1,1,1,0,1,0,0,1,1,1]),Item.inLoop (cA 6 [1,1,1,0,1,0,0]),Item.inBlock 0,Item.code (cA 6 [1,1,1,1])] (mkJ 0 [(3,.ptr 100000 0),(27,.dat l),(28,.int .i64 (l.len : Int)),(29,.int .i64 j)] 0 87)
section
variable (l o k nv m im st tf tn : D) (r : Rl) (far : Tgt) (lo n : Nat) (num j : Int)
theorem keA_k1 : execMR Try.prog ctKe [6] [] [] 400 (backK (keF l j) (sysM o k nv m im tf tn r far num (.view 0 5 lo n) [(0,.arr 65 st)])) =
 Tree.leaf
 (Conf.mk
 (SFrm.mk 6 (some (oA 6 [1,1,1,0,1,0,0,1,1,0,0,1,1,0],[4])) none
 [Item.code (cA 6 [1,1,1,0,1,0,0,1,1,0,0,1,1,1]),Item.inBlock 1,
 Item.code (cA 6 [1,1,1,0,1,0,0,1,1,1]),Item.inLoop (cA 6 [1,1,1,0,1,0,0]),
 Item.inBlock 0,Item.code (cA 6 [1,1,1,1])]
 (mkJ 0
 [(3,.ptr 100000 0),(27,.dat l),(28,.int .i64 (↑(D.len l) : Int)),(29,.int .i64 j),
 (35,.lb true),(36,.lb false),(37,.ptr 100000 0),(38,.ptr 100000 0),(39,.ptr 100000 15),
 (40,.mapp 100001)]
 0 87))
 []
 [(100000,
 OBlk.cells 62 (sC o k r nv far im (.view 0 5 lo n) (.vec 1) (.vec 2) num)),
 (100001,OBlk.mapD .i64 false [FT.slc] m),(1,OBlk.arr 72 tf),(2,OBlk.arr 72 tn),(0,OBlk.arr 65 st)]) := by kernel_rfl
theorem keB_k1 : execMR Try.prog ctKe [6] [] [] 400 (backK (keF l j) (sysM o k nv m im tf tn r far num (.dat st) [])) =
 Tree.leaf
 (Conf.mk
 (SFrm.mk 6 (some (oA 6 [1,1,1,0,1,0,0,1,1,0,0,1,1,0],[4])) none
 [Item.code (cA 6 [1,1,1,0,1,0,0,1,1,0,0,1,1,1]),Item.inBlock 1,
 Item.code (cA 6 [1,1,1,0,1,0,0,1,1,1]),Item.inLoop (cA 6 [1,1,1,0,1,0,0]),
 Item.inBlock 0,Item.code (cA 6 [1,1,1,1])]
 (mkJ 0
 [(3,.ptr 100000 0),(27,.dat l),(28,.int .i64 (↑(D.len l) : Int)),(29,.int .i64 j),
 (35,.lb true),(36,.lb false),(37,.ptr 100000 0),(38,.ptr 100000 0),(39,.ptr 100000 15),
 (40,.mapp 100001)]
 0 87))
 []
 [(100000,
 OBlk.cells 62 (sC o k r nv far im (.dat st) (.vec 1) (.vec 2) num)),
 (100001,OBlk.mapD .i64 false [FT.slc] m),(1,OBlk.arr 72 tf),(2,OBlk.arr 72 tn)]) := by kernel_rfl
end
def keTd : List Item := [Item.code (cA 6 [1,1,1,0,1,0,0,1,1,0,0,1,1,1]),Item.inBlock 1,Item.code (cA 6 [1,1,1,0,1,0,0,1,1,1]),Item.inLoop (cA 6 [1,1,1,0,1,0,0]),Item.inBlock 0,Item.code (cA 6 [1,1,1,1])]
def keRgT (l : D) (j : Int) : List SV := mkJ 0 [(3,.ptr 100000 0),(27,.dat l),(28,.int .i64 (l.len : Int)),(29,.int .i64 j),(35,.lb true),(36,.lb false),(37,.ptr 100000 0),(38,.ptr 100000 0),(39,.ptr 100000 15),(40,.mapp 100001)] 0 87
def keRg (l : D) (j : Int) (lst : List Nat) (T : List SV) (mm : Mem) : Conf := ⟨⟨6,some (oA 6 [1,1,1,0,1,0,0,1,1,0,0,1,1,0],lst),none,keTd,T⟩,[],mm⟩
section
variable (l o k nv m im st tf tn : D) (r : Rl) (far : Tgt) (lo n q : Nat) (num j : Int)
theorem keA_r : execMR Try.prog ctKe [6] [] [] 400 (keRg l j [] (putS (keRgT l j) (some 41) (.raw (itV q))) (sysM o k nv m im tf tn r far num (.view 0 5 lo n) [(0,.arr 65 st)])) =
 Tree.leaf
 (Conf.mk
 (SFrm.mk 6 none none
 [Item.inLoop (cA 6 [1,1,1,0,1,0,0,1,1,0,0,1,1,1,0,0]),Item.inBlock 2,Item.inBlock 1,
 Item.code (cA 6 [1,1,1,0,1,0,0,1,1,1]),Item.inLoop (cA 6 [1,1,1,0,1,0,0]),
 Item.inBlock 0,Item.code (cA 6 [1,1,1,1])]
 (mkJ 0
 [(3,.ptr 100000 0),(27,.dat l),(28,.int .i64 (↑(D.len l) : Int)),(29,.int .i64 j),
 (41,SV.raw (itV q))]
 0 87))
 []
 [(2,OBlk.arr 65 st),(3,OBlk.arr 72 tf),(4,OBlk.arr 72 tn),
 (100000,
 OBlk.cells 62 (sC o k r nv far im (.view 2 5 lo n) (.vec 3) (.vec 4) num)),
 (100001,OBlk.mapD .i64 false [FT.slc] m)]) := by kernel_rfl
theorem keB_r : execMR Try.prog ctKe [6] [] [] 400 (keRg l j [] (putS (keRgT l j) (some 41) (.raw (itV q))) (sysM o k nv m im tf tn r far num (.dat st) [])) =
 Tree.leaf
 (Conf.mk
 (SFrm.mk 6 none none
 [Item.inLoop (cA 6 [1,1,1,0,1,0,0,1,1,0,0,1,1,1,0,0]),Item.inBlock 2,Item.inBlock 1,
 Item.code (cA 6 [1,1,1,0,1,0,0,1,1,1]),Item.inLoop (cA 6 [1,1,1,0,1,0,0]),
 Item.inBlock 0,Item.code (cA 6 [1,1,1,1])]
 (mkJ 0
 [(3,.ptr 100000 0),(27,.dat l),(28,.int .i64 (↑(D.len l) : Int)),(29,.int .i64 j),
 (41,SV.raw (itV q))]
 0 87))
 []
 [(2,OBlk.arr 72 tf),(3,OBlk.arr 72 tn),
 (100000,
 OBlk.cells 62 (sC o k r nv far im (.dat st) (.vec 2) (.vec 3) num)),
 (100001,OBlk.mapD .i64 false [FT.slc] m)]) := by kernel_rfl
end
def keM (l : D) (j : Int) (q : Nat) (mm : Mem) : Conf := ⟨⟨6,none,none,[Item.inLoop (cA 6 [1,1,1,0,1,0,0,1,1,0,0,1,1,1,0,0]),Item.inBlock 2,Item.inBlock 1,Item.code (cA 6 [1,1,1,0,1,0,0,1,1,1]),Item.inLoop (cA 6 [1,1,1,0,1,0,0]),Item.inBlock 0,Item.code (cA 6 [1,1,1,1])],mkJ 0 [(3,.ptr 100000 0),(27,.dat l),(28,.int .i64 (l.len : Int)),(29,.int .i64 j),(41,.raw (itV q))] 0 87⟩,[],mm⟩
section
variable (l o k nv m im st tf tn : D) (r : Rl) (far : Tgt) (lo n q : Nat) (num j : Int)
theorem keA_n : execMR Try.prog ctKe [6] [] [] 400 (unroll (keM l j q (sysM o k nv m im tf tn r far num (.view 0 5 lo n) [(0,.arr 65 st)]))) =
 Tree.leaf
 (Conf.mk
 (SFrm.mk 6 (some (oA 6 [1,1,1,0,1,0,0,1,1,0,0,1,1,1,0,0,0],[0,1])) none
 [Item.code (cA 6 [1,1,1,0,1,0,0,1,1,0,0,1,1,1,0,0,1]),
 Item.inLoop (cA 6 [1,1,1,0,1,0,0,1,1,0,0,1,1,1,0,0]),Item.inBlock 2,Item.inBlock 1,
 Item.code (cA 6 [1,1,1,0,1,0,0,1,1,1]),Item.inLoop (cA 6 [1,1,1,0,1,0,0]),
 Item.inBlock 0,Item.code (cA 6 [1,1,1,1])]
 (mkJ 0
 [(3,.ptr 100000 0),(27,.dat l),(28,.int .i64 (↑(D.len l) : Int)),(29,.int .i64 j),
 (41,SV.raw (itV q))]
 0 87))
 []
 [(100000,
 OBlk.cells 62 (sC o k r nv far im (.view 0 5 lo n) (.vec 1) (.vec 2) num)),
 (100001,OBlk.mapD .i64 false [FT.slc] m),(1,OBlk.arr 72 tf),(2,OBlk.arr 72 tn),(0,OBlk.arr 65 st)]) := by kernel_rfl
theorem keB_n : execMR Try.prog ctKe [6] [] [] 400 (unroll (keM l j q (sysM o k nv m im tf tn r far num (.dat st) []))) =
 Tree.leaf
 (Conf.mk
 (SFrm.mk 6 (some (oA 6 [1,1,1,0,1,0,0,1,1,0,0,1,1,1,0,0,0],[0,1])) none
 [Item.code (cA 6 [1,1,1,0,1,0,0,1,1,0,0,1,1,1,0,0,1]),
 Item.inLoop (cA 6 [1,1,1,0,1,0,0,1,1,0,0,1,1,1,0,0]),Item.inBlock 2,Item.inBlock 1,
 Item.code (cA 6 [1,1,1,0,1,0,0,1,1,1]),Item.inLoop (cA 6 [1,1,1,0,1,0,0]),
 Item.inBlock 0,Item.code (cA 6 [1,1,1,1])]
 (mkJ 0
 [(3,.ptr 100000 0),(27,.dat l),(28,.int .i64 (↑(D.len l) : Int)),(29,.int .i64 j),
 (41,SV.raw (itV q))]
 0 87))
 []
 [(100000,
 OBlk.cells 62 (sC o k r nv far im (.dat st) (.vec 1) (.vec 2) num)),
 (100001,OBlk.mapD .i64 false [FT.slc] m),(1,OBlk.arr 72 tf),(2,OBlk.arr 72 tn)]) := by kernel_rfl
end
def keNxT (l : D) (j : Int) (q : Nat) : List SV := mkJ 0 [(3,.ptr 100000 0),(27,.dat l),(28,.int .i64 (l.len : Int)),(29,.int .i64 j),(41,.raw (itV q))] 0 87
def keNx (lst : List Nat) (T : List SV) (mm : Mem) : Conf := ⟨⟨6,some (oA 6 [1,1,1,0,1,0,0,1,1,0,0,1,1,1,0,0,0],lst),none,Item.code (cA 6 [1,1,1,0,1,0,0,1,1,0,0,1,1,1,0,0,1]) :: [Item.inLoop (cA 6 [1,1,1,0,1,0,0,1,1,0,0,1,1,1,0,0]),Item.inBlock 2,Item.inBlock 1,Item.code (cA 6 [1,1,1,0,1,0,0,1,1,1]),Item.inLoop (cA 6 [1,1,1,0,1,0,0]),Item.inBlock 0,Item.code (cA 6 [1,1,1,1])],T⟩,[],mm⟩
section
variable (l o k nv m im st tf tn : D) (r : Rl) (far : Tgt) (lo n q i : Nat) (num j : Int)
theorem keA_o : execMR Try.prog ctKe [6] [] [] 400 (keNx [1] (putS (keNxT l j q) (some 42) (.tup [.lb false])) (sysM o k nv m im tf tn r far num (.view 0 5 lo n) [(0,.arr 65 st)])) =
 Tree.leaf
 (Conf.mk
 (SFrm.mk 6 none none
 [Item.inLoop (cA 6 [1,1,1,0,1,0,0]),Item.inBlock 0,Item.code (cA 6 [1,1,1,1])]
 (mkJ 0
 [(3,.ptr 100000 0),(27,.dat l),(28,.int .i64 (↑(D.len l) : Int)),
 (29,.int .i64 (IntKind.wrap .i64 (j + 1)))]
 0 87))
 []
 [(2,OBlk.arr 65 st),(3,OBlk.arr 72 tf),(4,OBlk.arr 72 tn),
 (100000,
 OBlk.cells 62 (sC o k r nv far im (.view 2 5 lo n) (.vec 3) (.vec 4) num)),
 (100001,OBlk.mapD .i64 false [FT.slc] m)]) := by kernel_rfl
theorem keB_o : execMR Try.prog ctKe [6] [] [] 400 (keNx [1] (putS (keNxT l j q) (some 42) (.tup [.lb false])) (sysM o k nv m im tf tn r far num (.dat st) [])) =
 Tree.leaf
 (Conf.mk
 (SFrm.mk 6 none none
 [Item.inLoop (cA 6 [1,1,1,0,1,0,0]),Item.inBlock 0,Item.code (cA 6 [1,1,1,1])]
 (mkJ 0
 [(3,.ptr 100000 0),(27,.dat l),(28,.int .i64 (↑(D.len l) : Int)),
 (29,.int .i64 (IntKind.wrap .i64 (j + 1)))]
 0 87))
 []
 [(2,OBlk.arr 72 tf),(3,OBlk.arr 72 tn),
 (100000,
 OBlk.cells 62 (sC o k r nv far im (.dat st) (.vec 2) (.vec 3) num)),
 (100001,OBlk.mapD .i64 false [FT.slc] m)]) := by kernel_rfl
theorem keA_e : execMR Try.prog ctKe [6] [] [] 400 (keNx [1] (putS (keNxT l j q) (some 42) (.tup [.lb true,.int .i64 (m.getInt i 0),.dat (m.cell i 1)])) (sysM o k nv m im tf tn r far num (.view 0 5 lo n) [(0,.arr 65 st)])) =
 Tree.leaf
 (Conf.mk
 (SFrm.mk 6 (some (oA 6 [1,1,1,0,1,0,0,1,1,0,0,1,1,1,0,0,1,1,0,0],[0,1,2,3,4]))
 none
 [Item.code (cA 6 [1,1,1,0,1,0,0,1,1,0,0,1,1,1,0,0,1,1,0,1]),Item.inBlock 3,
 Item.inLoop (cA 6 [1,1,1,0,1,0,0,1,1,0,0,1,1,1,0,0]),Item.inBlock 2,Item.inBlock 1,
 Item.code (cA 6 [1,1,1,0,1,0,0,1,1,1]),Item.inLoop (cA 6 [1,1,1,0,1,0,0]),
 Item.inBlock 0,Item.code (cA 6 [1,1,1,1])]
 (mkJ 0
 [(3,.ptr 100000 0),(27,.dat l),(28,.int .i64 (↑(D.len l) : Int)),(29,.int .i64 j),
 (41,SV.raw (itV q)),(42,SV.tup [.lb true,.int .i64 (D.getInt m i 0),.dat (D.cell m i 1)]),
 (43,.lb true)]
 0 87))
 []
 [(100000,
 OBlk.cells 62 (sC o k r nv far im (.view 0 5 lo n) (.vec 1) (.vec 2) num)),
 (100001,OBlk.mapD .i64 false [FT.slc] m),(1,OBlk.arr 72 tf),(2,OBlk.arr 72 tn),(0,OBlk.arr 65 st)]) := by kernel_rfl
theorem keB_e : execMR Try.prog ctKe [6] [] [] 400 (keNx [1] (putS (keNxT l j q) (some 42) (.tup [.lb true,.int .i64 (m.getInt i 0),.dat (m.cell i 1)])) (sysM o k nv m im tf tn r far num (.dat st) [])) =
 Tree.leaf
 (Conf.mk
 (SFrm.mk 6 (some (oA 6 [1,1,1,0,1,0,0,1,1,0,0,1,1,1,0,0,1,1,0,0],[0,1,2,3,4]))
 none
 [Item.code (cA 6 [1,1,1,0,1,0,0,1,1,0,0,1,1,1,0,0,1,1,0,1]),Item.inBlock 3,
 Item.inLoop (cA 6 [1,1,1,0,1,0,0,1,1,0,0,1,1,1,0,0]),Item.inBlock 2,Item.inBlock 1,
 Item.code (cA 6 [1,1,1,0,1,0,0,1,1,1]),Item.inLoop (cA 6 [1,1,1,0,1,0,0]),
 Item.inBlock 0,Item.code (cA 6 [1,1,1,1])]
 (mkJ 0
 [(3,.ptr 100000 0),(27,.dat l),(28,.int .i64 (↑(D.len l) : Int)),(29,.int .i64 j),
 (41,SV.raw (itV q)),(42,SV.tup [.lb true,.int .i64 (D.getInt m i 0),.dat (D.cell m i 1)]),
 (43,.lb true)]
 0 87))
 []
 [(100000,
 OBlk.cells 62 (sC o k r nv far im (.dat st) (.vec 1) (.vec 2) num)),
 (100001,OBlk.mapD .i64 false [FT.slc] m),(1,OBlk.arr 72 tf),(2,OBlk.arr 72 tn)]) := by kernel_rfl
end
def keEnT (l m : D) (j : Int) (q i : Nat) : List SV := mkJ 0 [(3,.ptr 100000 0),(27,.dat l),(28,.int .i64 (l.len : Int)),(29,.int .i64 j),(41,.raw (itV q)),(42,.tup [.lb true,.int .i64 (m.getInt i 0),.dat (m.cell i 1)]),(43,.lb true)] 0 87
def keEn (lst : List Nat) (T : List SV) (mm : Mem) : Conf := ⟨⟨6,some (oA 6 [1,1,1,0,1,0,0,1,1,0,0,1,1,1,0,0,1,1,0,0],lst),none,Item.code (cA 6 [1,1,1,0,1,0,0,1,1,0,0,1,1,1,0,0,1,1,0,1]) :: Item.inBlock 3 :: [Item.inLoop (cA 6 [1,1,1,0,1,0,0,1,1,0,0,1,1,1,0,0]),Item.inBlock 2,Item.inBlock 1,Item.code (cA 6 [1,1,1,0,1,0,0,1,1,1]),Item.inLoop (cA 6 [1,1,1,0,1,0,0]),Item.inBlock 0,Item.code (cA 6 [1,1,1,1])],T⟩,[],mm⟩
section
variable (l o k nv m im st tf tn : D) (r : Rl) (far : Tgt) (lo n q i p : Nat) (num j : Int)
theorem keA_b : execMR Try.prog ctKe [6] [] [] 400 (keEn [1,2,3,4] (putS (keEnT l m j q i) (some 44) (.tup [.int .i64 (m.getInt p 0),.dat (m.cell p 1)])) (sysM o k nv m im tf tn r far num (.view 0 5 lo n) [(0,.arr 65 st)])) =
 Tree.br (decide (D.getInt m p 0 < Src.applied (Rl.src r)))
 (.leaf
 (Conf.mk
 (SFrm.mk 6 none none
 [Item.inLoop (cA 6 [1,1,1,0,1,0,0,1,1,0,0,1,1,1,0,0]),Item.inBlock 2,Item.inBlock 1,
 Item.code (cA 6 [1,1,1,0,1,0,0,1,1,1]),Item.inLoop (cA 6 [1,1,1,0,1,0,0]),
 Item.inBlock 0,Item.code (cA 6 [1,1,1,1])]
 (mkJ 0
 [(3,.ptr 100000 0),(27,.dat l),(28,.int .i64 (↑(D.len l) : Int)),
 (29,.int .i64 j),(41,SV.raw (itV q))]
 0 87))
 []
 [(2,OBlk.arr 65 st),(3,OBlk.arr 72 tf),(4,OBlk.arr 72 tn),
 (100000,
 OBlk.cells 62 (sC o k r nv far im (.view 2 5 lo n) (.vec 3) (.vec 4) num)),
 (100001,OBlk.mapD .i64 false [FT.slc] m)]))
 (.leaf
 (Conf.mk
 (SFrm.mk 6 none none
 [Item.inLoop (cA 6 [1,1,1,0,1,0,0,1,1,0,0,1,1,1,0,0,1,1,0,1,1,0,1,0,0]),
 Item.inBlock 4,Item.code (cA 6 [1,1,1,0,1,0,0,1,1,0,0,1,1,1,0,0,1,1,0,1,1,1]),
 Item.inBlock 3,Item.inLoop (cA 6 [1,1,1,0,1,0,0,1,1,0,0,1,1,1,0,0]),Item.inBlock 2,
 Item.inBlock 1,Item.code (cA 6 [1,1,1,0,1,0,0,1,1,1]),
 Item.inLoop (cA 6 [1,1,1,0,1,0,0]),Item.inBlock 0,Item.code (cA 6 [1,1,1,1])]
 (mkJ 0
 [(3,.ptr 100000 0),(7,.int .i64 (D.getInt m p 0)),(8,.dat (D.cell m p 1)),(27,.dat l),
 (28,.int .i64 (↑(D.len l) : Int)),(29,.int .i64 j),(41,SV.raw (itV q)),
 (59,.dat (D.like k (Rl.kept r))),(60,.int .i64 (↑(D.len (D.like k (Rl.kept r))) : Int)),
 (61,.int .i64 0)]
 0 87))
 []
 [(2,OBlk.arr 65 st),(3,OBlk.arr 72 tf),(4,OBlk.arr 72 tn),
 (100000,
 OBlk.cells 62 (sC o k r nv far im (.view 2 5 lo n) (.vec 3) (.vec 4) num)),
 (100001,OBlk.mapD .i64 false [FT.slc] m)])) := by kernel_rfl
theorem keB_b : execMR Try.prog ctKe [6] [] [] 400 (keEn [1,2,3,4] (putS (keEnT l m j q i) (some 44) (.tup [.int .i64 (m.getInt p 0),.dat (m.cell p 1)])) (sysM o k nv m im tf tn r far num (.dat st) [])) =
 Tree.br (decide (D.getInt m p 0 < Src.applied (Rl.src r)))
 (.leaf
 (Conf.mk
 (SFrm.mk 6 none none
 [Item.inLoop (cA 6 [1,1,1,0,1,0,0,1,1,0,0,1,1,1,0,0]),Item.inBlock 2,Item.inBlock 1,
 Item.code (cA 6 [1,1,1,0,1,0,0,1,1,1]),Item.inLoop (cA 6 [1,1,1,0,1,0,0]),
 Item.inBlock 0,Item.code (cA 6 [1,1,1,1])]
 (mkJ 0
 [(3,.ptr 100000 0),(27,.dat l),(28,.int .i64 (↑(D.len l) : Int)),
 (29,.int .i64 j),(41,SV.raw (itV q))]
 0 87))
 []
 [(2,OBlk.arr 72 tf),(3,OBlk.arr 72 tn),
 (100000,
 OBlk.cells 62 (sC o k r nv far im (.dat st) (.vec 2) (.vec 3) num)),
 (100001,OBlk.mapD .i64 false [FT.slc] m)]))
 (.leaf
 (Conf.mk
 (SFrm.mk 6 none none
 [Item.inLoop (cA 6 [1,1,1,0,1,0,0,1,1,0,0,1,1,1,0,0,1,1,0,1,1,0,1,0,0]),
 Item.inBlock 4,Item.code (cA 6 [1,1,1,0,1,0,0,1,1,0,0,1,1,1,0,0,1,1,0,1,1,1]),
 Item.inBlock 3,Item.inLoop (cA 6 [1,1,1,0,1,0,0,1,1,0,0,1,1,1,0,0]),Item.inBlock 2,
 Item.inBlock 1,Item.code (cA 6 [1,1,1,0,1,0,0,1,1,1]),
 Item.inLoop (cA 6 [1,1,1,0,1,0,0]),Item.inBlock 0,Item.code (cA 6 [1,1,1,1])]
 (mkJ 0
 [(3,.ptr 100000 0),(7,.int .i64 (D.getInt m p 0)),(8,.dat (D.cell m p 1)),(27,.dat l),
 (28,.int .i64 (↑(D.len l) : Int)),(29,.int .i64 j),(41,SV.raw (itV q)),
 (59,.dat (D.like k (Rl.kept r))),(60,.int .i64 (↑(D.len (D.like k (Rl.kept r))) : Int)),
 (61,.int .i64 0)]
 0 87))
 []
 [(2,OBlk.arr 72 tf),(3,OBlk.arr 72 tn),
 (100000,
 OBlk.cells 62 (sC o k r nv far im (.dat st) (.vec 2) (.vec 3) num)),
 (100001,OBlk.mapD .i64 false [FT.slc] m)])) := by kernel_rfl
end
def keN (l : D) (j : Int) (q : Nat) (a : Int) (v kd : D) (z : Int) (mm : Mem) : Conf := ⟨⟨6,none,none,Item.inLoop (cA 6 [1,1,1,0,1,0,0,1,1,0,0,1,1,1,0,0,1,1,0,1,1,0,1,0,0]) :: Item.inBlock 4 :: Item.code (cA 6 [1,1,1,0,1,0,0,1,1,0,0,1,1,1,0,0,1,1,0,1,1,1]) :: Item.inBlock 3 :: [Item.inLoop (cA 6 [1,1,1,0,1,0,0,1,1,0,0,1,1,1,0,0]),Item.inBlock 2,Item.inBlock 1,Item.code (cA 6 [1,1,1,0,1,0,0,1,1,1]),Item.inLoop (cA 6 [1,1,1,0,1,0,0]),Item.inBlock 0,Item.code (cA 6 [1,1,1,1])],mkJ 0 [(3,.ptr 100000 0),(7,.int .i64 a),(8,.dat v),(27,.dat l),(28,.int .i64 (l.len : Int)),(29,.int .i64 j),(41,.raw (itV q)),(59,.dat kd),(60,.int .i64 (kd.len : Int)),(61,.int .i64 z)] 0 87⟩,[],mm⟩
section
variable (l o k nv m im st tf tn v kd : D) (r : Rl) (far : Tgt) (lo n q : Nat) (num j a z : Int)
theorem keA_c : 
 let z1 := (CyD.mk (D.getInt kd (Int.toNat z) 0) (D.getInt kd (Int.toNat z) 1) (D.getInt kd (Int.toNat z) 2) (D.cell kd (Int.toNat z) 3) (D.cell kd (Int.toNat z) 4))
 let z2 := (sC o k r nv far im (.view 2 5 lo n) (.vec 3) (.vec 4) num)
 let z3 := (cA 6 [1,1,1,0,1,0,0,1,1,0,0,1,1,1,0,0])
 let z4 := (cA 6 [1,1,1,0,1,0,0,1,1,0,0,1,1,1,0,0,1,1,0,1,1,0,1,0,0])
 let z5 := (cA 6 [1,1,1,0,1,0,0,1,1,1])
 let z6 := (cA 6 [1,1,1,0,1,0,0,1,1,0,0,1,1,1,0,0,1,1,0,1,1,1])
 let z7 := (cA 6 [1,1,1,0,1,0,0])
 execMR Try.prog ctKe [6] [] [] 400 (unroll (keN l j q a v kd z (sysM o k nv m im tf tn r far num (.view 0 5 lo n) [(0,.arr 65 st)]))) =
 Tree.br (decide (z < (↑(D.len kd) : Int))) (.need (0 ≤ z ∧ z < (↑(D.len kd) : Int) ∧ D.sz kd = 5) (.need (D.HasCells kd (Int.toNat z) 0 [FT.int .i64,FT.int .i64,FT.int .i64,FT.slc,FT.slc]) (.br (decide
 (D.getInt kd (Int.toNat z) 1 ≤ a)) (.leaf (Conf.mk (SFrm.mk 6 none none [Item.inLoop z4,Item.inBlock 4,Item.code z6,Item.inBlock 3,Item.inLoop z3,Item.inBlock 2,Item.inBlock 1,Item.code z5,Item.inLoop z7,Item.inBlock 0,Item.code
 (cA 6 [1,1,1,1])] (mkJ 0 [(3,.ptr 100000 0),(7,.int .i64 a),(8,.dat v),(27,.dat l),(28,.int .i64 (↑(D.len l) : Int)),(29,.int .i64 j),(41,SV.raw (itV q)),(59,.dat kd),(60,.int .i64
 (↑(D.len kd) : Int)),(61,.int .i64 (IntKind.wrap .i64 (z + 1)))] 0 87)) [] [(2,OBlk.arr 65 st),(3,OBlk.arr 72 tf),(4,OBlk.arr 72 tn),(100000,OBlk.cells 62 z2),(100001,OBlk.mapD .i64 false [FT.slc] m)]))
 (.need (D.Is Vol v ∧ D.len v ≤ 1048576 ∧ CyD.Ok z1) (.all fun hs=>.br (Prod.snd (applyCy (D.to Vol v) (CyD.cy z1)) != 0) (.leaf (Conf.mk (SFrm.mk 6 none none [Item.code (cA 6 [1,1,0,1,0,1]),Item.inBlock 5,Item.code
 (cA 6 [1,1,1,0,1,0,0,1,1,0,0,1,1,1,0,0,1,1,0,1,1,0,1,0,0,1,1,1]),Item.inLoop z4,Item.inBlock 4,Item.code z6,Item.inBlock 3,Item.inLoop z3,Item.inBlock 2,Item.inBlock 1,Item.code z5,Item.inLoop z7,Item.inBlock 0,Item.code
 (cA 6 [1,1,1,1])] (mkJ 0 [(2,.lb false)] 0 87)) [] [(2,OBlk.arr 65 st),(3,OBlk.arr 72 tf),(4,OBlk.arr 72 tn),(100000,OBlk.cells 62 z2),(100001,OBlk.mapD .i64 false [FT.slc] m)])) (.leaf (Conf.mk
 (SFrm.mk 6 none none [Item.inLoop z4,Item.inBlock 4,Item.code z6,Item.inBlock 3,Item.inLoop z3,Item.inBlock 2,Item.inBlock 1,Item.code z5,Item.inLoop z7,Item.inBlock 0,Item.code (cA 6 [1,1,1,1])]
 (mkJ 0 [(3,.ptr 100000 0),(7,.int .i64 a),(8,.dat (D.like (hs 0 0) (Prod.fst (applyCy (D.to Vol v) (CyD.cy z1))))),(27,.dat l),(28,.int .i64 (↑(D.len l) : Int)),(29,.int .i64 j),(41,SV.raw
 (itV q)),(59,.dat kd),(60,.int .i64 (↑(D.len kd) : Int)),(61,.int .i64 (IntKind.wrap .i64 (z + 1)))] 0 87)) [] [(2,OBlk.arr 65 st),(3,OBlk.arr 72 tf),(4,OBlk.arr 72 tn),(100000,OBlk.cells 62 z2),
 (100001,OBlk.mapD .i64 false [FT.slc] m)]))))))) (.need (D.Is Vol v ∧ D.Is Vol nv ∧ D.len v ≤ 1048576 ∧ D.len nv ≤ 1048576 ∧ (∀ (v_1 : Vol),List.Mem v_1 (D.to Vol v) → List.length (Vol.l v_1) ≤ 1048576) ∧ ∀
 (v : Vol),List.Mem v (D.to Vol nv) → List.length (Vol.l v) ≤ 1048576) (.br (!decide (D.to Vol v = D.to Vol nv)) (.leaf (Conf.mk (SFrm.mk 6 none none [Item.code (cA 6 [1,1,0,1,0,1]),Item.inBlock 3,Item.inLoop z3,Item.inBlock 2,Item.inBlock 1,Item.code z5,Item.inLoop z7,Item.inBlock 0,Item.code
 (cA 6 [1,1,1,1])] (mkJ 0 [(2,.lb false)] 0 87)) [] [(2,OBlk.arr 65 st),(3,OBlk.arr 72 tf),(4,OBlk.arr 72 tn),(100000,OBlk.cells 62 z2),(100001,OBlk.mapD .i64 false [FT.slc] m)])) (.leaf (Conf.mk
 (SFrm.mk 6 none none [Item.inLoop z3,Item.inBlock 2,Item.inBlock 1,Item.code z5,Item.inLoop z7,Item.inBlock 0,Item.code (cA 6 [1,1,1,1])] (mkJ 0 [(3,.ptr 100000 0),(27,.dat l),(28,.int .i64
 (↑(D.len l) : Int)),(29,.int .i64 j),(41,SV.raw (itV q))] 0 87)) [] [(2,OBlk.arr 65 st),(3,OBlk.arr 72 tf),(4,OBlk.arr 72 tn),(100000,OBlk.cells 62 z2),(100001,OBlk.mapD .i64 false [FT.slc] m)])))) := by
 intros; kernel_rfl
theorem keB_c : 
 let z1 := (CyD.mk (D.getInt kd (Int.toNat z) 0) (D.getInt kd (Int.toNat z) 1) (D.getInt kd (Int.toNat z) 2) (D.cell kd (Int.toNat z) 3) (D.cell kd (Int.toNat z) 4))
 let z2 := (cA 6 [1,1,1,0,1,0,0,1,1,0,0,1,1,1,0,0])
 let z3 := (sC o k r nv far im (.dat st) (.vec 2) (.vec 3) num)
 let z4 := (cA 6 [1,1,1,0,1,0,0,1,1,0,0,1,1,1,0,0,1,1,0,1,1,0,1,0,0])
 let z5 := (cA 6 [1,1,1,0,1,0,0,1,1,1])
 let z6 := (cA 6 [1,1,1,0,1,0,0,1,1,0,0,1,1,1,0,0,1,1,0,1,1,1])
 let z7 := (cA 6 [1,1,1,0,1,0,0])
 execMR Try.prog ctKe [6] [] [] 400 (unroll (keN l j q a v kd z (sysM o k nv m im tf tn r far num (.dat st) []))) =
 Tree.br (decide (z < (↑(D.len kd) : Int))) (.need (0 ≤ z ∧ z < (↑(D.len kd) : Int) ∧ D.sz kd = 5) (.need (D.HasCells kd (Int.toNat z) 0 [FT.int .i64,FT.int .i64,FT.int .i64,FT.slc,FT.slc]) (.br (decide
 (D.getInt kd (Int.toNat z) 1 ≤ a)) (.leaf (Conf.mk (SFrm.mk 6 none none [Item.inLoop z4,Item.inBlock 4,Item.code z6,Item.inBlock 3,Item.inLoop z2,Item.inBlock 2,Item.inBlock 1,Item.code z5,Item.inLoop z7,Item.inBlock 0,Item.code
 (cA 6 [1,1,1,1])] (mkJ 0 [(3,.ptr 100000 0),(7,.int .i64 a),(8,.dat v),(27,.dat l),(28,.int .i64 (↑(D.len l) : Int)),(29,.int .i64 j),(41,SV.raw (itV q)),(59,.dat kd),(60,.int .i64
 (↑(D.len kd) : Int)),(61,.int .i64 (IntKind.wrap .i64 (z + 1)))] 0 87)) [] [(2,OBlk.arr 72 tf),(3,OBlk.arr 72 tn),(100000,OBlk.cells 62 z3),(100001,OBlk.mapD .i64 false [FT.slc] m)])) (.need (D.Is Vol v ∧ D.len v ≤ 1048576 ∧ CyD.Ok z1)
 (.all fun hs=>.br (Prod.snd (applyCy (D.to Vol v) (CyD.cy z1)) != 0) (.leaf (Conf.mk (SFrm.mk 6 none none [Item.code (cA 6 [1,1,0,1,0,1]),Item.inBlock 5,Item.code (cA 6 [1,1,1,0,1,0,0,1,1,0,0,1,1,1,0,0,1,1,0,1,1,0,1,0,0,1,1,1]),Item.inLoop z4,Item.inBlock 4,Item.code z6,Item.inBlock 3,Item.inLoop z2,Item.inBlock 2,Item.inBlock 1,Item.code z5,Item.inLoop z7,Item.inBlock 0,Item.code
 (cA 6 [1,1,1,1])] (mkJ 0 [(2,.lb false)] 0 87)) [] [(2,OBlk.arr 72 tf),(3,OBlk.arr 72 tn),(100000,OBlk.cells 62 z3),(100001,OBlk.mapD .i64 false [FT.slc] m)])) (.leaf (Conf.mk (SFrm.mk 6 none none [Item.inLoop z4,Item.inBlock 4,Item.code z6,Item.inBlock 3,Item.inLoop z2,Item.inBlock 2,Item.inBlock 1,Item.code z5,Item.inLoop z7,Item.inBlock 0,Item.code
 (cA 6 [1,1,1,1])] (mkJ 0 [(3,.ptr 100000 0),(7,.int .i64 a),(8,.dat (D.like (hs 0 0) (Prod.fst (applyCy (D.to Vol v) (CyD.cy z1))))),(27,.dat l),(28,.int .i64 (↑(D.len l) : Int)),(29,.int .i64 j),
 (41,SV.raw (itV q)),(59,.dat kd),(60,.int .i64 (↑(D.len kd) : Int)),(61,.int .i64 (IntKind.wrap .i64 (z + 1)))] 0 87)) [] [(2,OBlk.arr 72 tf),(3,OBlk.arr 72 tn),(100000,OBlk.cells 62 z3),(100001,OBlk.mapD .i64 false [FT.slc] m)])))))))
 (.need (D.Is Vol v ∧ D.Is Vol nv ∧ D.len v ≤ 1048576 ∧ D.len nv ≤ 1048576 ∧ (∀ (v_1 : Vol),List.Mem v_1 (D.to Vol v) → List.length (Vol.l v_1) ≤ 1048576) ∧ ∀ (v : Vol),List.Mem v (D.to Vol nv) → List.length
 (Vol.l v) ≤ 1048576) (.br (!decide (D.to Vol v = D.to Vol nv)) (.leaf (Conf.mk (SFrm.mk 6 none none [Item.code (cA 6 [1,1,0,1,0,1]),Item.inBlock 3,Item.inLoop z2,Item.inBlock 2,Item.inBlock 1,Item.code z5,Item.inLoop z7,Item.inBlock 0,Item.code
 (cA 6 [1,1,1,1])] (mkJ 0 [(2,.lb false)] 0 87)) [] [(2,OBlk.arr 72 tf),(3,OBlk.arr 72 tn),(100000,OBlk.cells 62 z3),(100001,OBlk.mapD .i64 false [FT.slc] m)])) (.leaf (Conf.mk (SFrm.mk 6 none none [Item.inLoop z2,Item.inBlock 2,Item.inBlock 1,Item.code z5,Item.inLoop z7,Item.inBlock 0,Item.code
 (cA 6 [1,1,1,1])] (mkJ 0 [(3,.ptr 100000 0),(27,.dat l),(28,.int .i64 (↑(D.len l) : Int)),(29,.int .i64 j),(41,SV.raw (itV q))] 0 87)) [] [(2,OBlk.arr 72 tf),(3,OBlk.arr 72 tn),(100000,OBlk.cells 62 z3),
 (100001,OBlk.mapD .i64 false [FT.slc] m)])))) := by
 intros; kernel_rfl
end
end Sv
end
noncomputable section
open Go
namespace Sx
theorem im4_vl {l : List Vol} (h : Im4 l) : ∀ v,v ∈ l → v.l.length ≤ 1048576 := fun v hv=>by
 unfold Im4 volSizes at h
 have : (v.l.length : Int) ∈ l.map fun v=>(v.l.length : Int) := List.mem_map.2 ⟨v,hv,rfl⟩
 rw [h] at this
 simp at this
 omega
def SmC (c : Cy) : Prop := ∃ b n d,c = smallC b n d ∧ 0 ≤ b ∧ b < n ∧ n ≤ 1073741824
theorem SmC.ok {c : Cy} (h : SmC c) : CyOk c := by
 obtain ⟨b,n,d,rfl,_⟩ := h
 exact small_ok b n d
theorem chain_small {a : Int} {K : List Cy} (h : ChainS a K) (ha : 0 ≤ a) : ∀ c,c ∈ K → SmC c := by
 induction K generalizing a with
 | nil=>exact fun c hc=>nomatch hc
 | cons x r ih =>
  obtain ⟨⟨d,k1⟩,k2,k3,k4⟩ := h
  intro c hc
  rcases List.mem_cons.1 hc with rfl | hc
  ·exact ⟨a,c.number,d,k1,ha,k2,k3⟩
  ·exact ih k4 (by omega) c hc
structure Kp (K : List Cy) (a : Int) (im near : List Vol) : Prop where
 keep : keepF K a im = some near
 im4 : Im4 im
 near4 : Im4 near
 cy : ∀ c,c ∈ K → SmC c
theorem Kp.nil {a : Int} {im near : List Vol} (h : Kp [] a im near) : im = near := by
 have := h.keep
 unfold keepF at this
 exact Option.some.inj this
theorem Kp.skip {c : Cy} {K : List Cy} {a : Int} {im near : List Vol} (h : Kp (c :: K) a im near) (hc : c.number ≤ a) : Kp K a im near := by
 have := h.keep
 unfold keepF at this
 rw [if_pos hc] at this
 exact ⟨this,h.im4,h.near4,fun x hx=>h.cy x (List.mem_cons_of_mem _ hx)⟩
theorem Kp.apply {c : Cy} {K : List Cy} {a : Int} {im near : List Vol} (h : Kp (c :: K) a im near) (hc : ¬ c.number ≤ a) : (applyCy im c).2 = 0 ∧ Kp K a (applyCy im c).1 near := by
 have := h.keep
 unfold keepF at this
 rw [if_neg hc] at this
 obtain ⟨b,n,d,e,hb,hn,hm⟩ := h.cy c List.mem_cons_self
 obtain ⟨e1,e2⟩ := im4_apply (d := d) h.im4 hb hn hm
 rw [← e] at e1 e2
 rw [if_neg (by rw [e1]; simp)] at this
 exact ⟨e1,this,e2,h.near4,fun x hx=>h.cy x (List.mem_cons_of_mem _ hx)⟩
theorem kp_of {s : Sys} {A S Sf Af : Int} {K : List Cy} (h : SysOk s A S Sf Af K) {p : Int × List Vol} (hp : p ∈ s.images) (hn : ¬ p.1 < s.r.src.applied) : Kp s.r.kept p.1 p.2 s.near := by
 have hk := keepS_ok h
 unfold keepS at hk
 have hk := List.all_eq_true.1 hk p hp
 rw [if_neg hn] at hk
 have ek : s.r.kept = K := by rw [h.r]; rfl
 have ea : s.r.src.applied = A := by rw [h.r]; rfl
 have hsm := chain_small h.rel.ch h.rel.a0
 refine ⟨?_,?_,h.near.2,by rw [ek]; exact hsm⟩
 ·cases hf : keepF s.r.kept p.1 p.2 with
  | none=>rw [hf] at hk; cases hk
  | some im=>rw [hf] at hk; rw [of_decide_eq_true hk]
 ·obtain ⟨q1,q2⟩ := h.ims p hp
  rw [ea] at hn
  rcases q2 with q2 | q2
  ·have e : p.1 = A := by omega
   cases K with
   | nil =>
    have hl : A = s.numbers := h.rel.last
    rw [e,hl,h.near.1] at q1
    rw [← Option.some.inj q1]; exact h.near.2
   | cons c r =>
    obtain ⟨⟨d,k1⟩,_⟩ := h.rel.ch
    obtain ⟨jm,jm',g1,_,g3,_⟩ := h.kept c List.mem_cons_self
    have hb : c.base = A := by rw [k1]; rfl
    rw [hb,← e,q1] at g1
    rw [Option.some.inj g1]; exact g3
  ·obtain ⟨c,hc,e⟩ := List.mem_map.1 q2
   obtain ⟨jm,jm',g1,g2,g3,g4⟩ := h.kept c hc
   rw [e,q1] at g2
   have g2 := Option.some.inj g2
   obtain ⟨b,n,d,ec,hb,hn,hm⟩ := hsm c hc
   have := (im4_apply (d := d) g3 hb hn hm).2
   rw [← ec,g4] at this
   rw [g2]; exact this
end Sx
end
noncomputable section
open Go Go.Proofs Sx
namespace Sv
theorem ctKeOk : Ctrs.Ok Try.prog ctKe := by
 intro x hx
 simp only [ctKe,List.mem_cons,List.not_mem_nil,or_false] at hx
 rcases hx with rfl | rfl | rfl
 ·exact ctrOf_ok lawCya
 ·exact ctrOf_ok lawSameI
 ·exact ctrOf_ok lawAwk
def SysMemM (m : D) (s : Sx.Sys) (mm : Mem) : Prop := ∃ (o k nv im tf tn : D) (sv : SV) (bl : Mem),SW nv m im tf tn s ∧ Stg 65 s.staged sv bl ∧ mm = sysM o k nv m im tf tn s.r s.far s.numbers sv bl
theorem smemM {s : Sx.Sys} {o k nv m im tf tn : D} {sv : SV} {bl : Mem} (h : SW nv m im tf tn s) (h' : Stg 65 s.staged sv bl) : SysMemM m s (sysM o k nv m im tf tn s.r s.far s.numbers sv bl) := ⟨_,_,_,_,_,_,_,_,h,h',rfl⟩
theorem SysMemM.mem {m : D} {s : Sx.Sys} {mm : Mem} (h : SysMemM m s mm) : SysMem s mm := by
 obtain ⟨o,k,nv,im,tf,tn,sv,bl,h1,h2,h3⟩ := h
 exact ⟨o,k,nv,m,im,tf,tn,sv,bl,h1,h2,h3⟩
theorem ke_n {l m kd : D} {j a : Int} {q : Nat} {s : Sx.Sys} {C : Ctx} {R : Value → World → Prop} (hkd : kd.Is Cy) (hlen : kd.len ≤ 1048575) (hcs : ∀ c,c ∈ kd.to Cy → CyOk c) (hM : ∀ {mm},SysMemM m s mm → Runs Try.prog C (keM l j q mm) R) :
  ∀ (x z : Nat) {v : D} {mm : Mem},z + x = kd.len → v.Is Vol → Kp ((kd.to Cy).drop z) a (v.to Vol) s.near → SysMemM m s mm → Runs Try.prog C (keN l j q a v kd z mm) R
 | 0,z,v,mm,hz,hv,hk,hm=>by
  rw [List.drop_eq_nil_of_le (by rw [← D.Is.length (α := Cy)]; omega)] at hk
  obtain ⟨o,k,nv,im,tf,tn,sv,bl,hsw,hst,he⟩ := hm
  subst he
  refine unroll_sound rfl ?_
  apply execMR_sound ctKeOk _ _ _ 400
  cases hst with
  | a st lo n h1 h2 h3 =>
   rw [keA_c]
   refine ⟨fun h=>absurd (of_decide_eq_true h) (by omega),fun _=>⟨⟨hv,hsw.nv.1,im_len hv rfl hk.im4,im_len hsw.nv.1 hsw.nv.2 hk.near4,fun y hy=>im4_vl hk.im4 y hy,fun y hy=>im4_vl hk.near4 y (by rw [← hsw.nv.2]; exact hy)⟩,fun h=>?_,fun _=>?_⟩⟩
   ·rw [hk.nil,← hsw.nv.2] at h; simp at h
   ·exact runs_sys [100000,100001,1,2,0] (by kernel_rfl) (by decide) (by kernel_rfl) (hM (smemM (o := o) (k := k) hsw (.a st lo n h1 h2 h3)))
  | b st h1 h2 h3 =>
   rw [keB_c]
   refine ⟨fun h=>absurd (of_decide_eq_true h) (by omega),fun _=>⟨⟨hv,hsw.nv.1,im_len hv rfl hk.im4,im_len hsw.nv.1 hsw.nv.2 hk.near4,fun y hy=>im4_vl hk.im4 y hy,fun y hy=>im4_vl hk.near4 y (by rw [← hsw.nv.2]; exact hy)⟩,fun h=>?_,fun _=>?_⟩⟩
   ·rw [hk.nil,← hsw.nv.2] at h; simp at h
   ·exact runs_sys [100000,100001,1,2] (by kernel_rfl) (by decide) (by kernel_rfl) (hM (smemM (o := o) (k := k) hsw (.b st h1 h2 h3)))
 | x + 1,z,v,mm,hz,hv,hk,hm=>by
  have hlt : z < (kd.to Cy).length := by rw [← D.Is.length (α := Cy)]; omega
  obtain ⟨c1,c2,c3,c4⟩ := cy_cell hkd hlt
  rw [List.drop_eq_getElem_cons hlt] at hk
  have hcn : ((kd.to Cy)[z]).number = kd.getInt z 1 := by rw [c4]; rfl
  obtain ⟨o,k,nv,im,tf,tn,sv,bl,hsw,hst,he⟩ := hm
  subst he
  refine unroll_sound rfl ?_
  apply execMR_sound ctKeOk _ _ _ 400
  cases hst with
  | a st lo n h1 h2 h3 =>
   rw [keA_c,wrapj (by omega)]
   refine ⟨fun _=>⟨⟨by omega,by omega,hkd.size hlt⟩,c1,fun h=>?_,fun h=>?_⟩,fun h=>absurd (of_decide_eq_false h) (by omega)⟩
   ·have hle : (kd.getInt z 1) ≤ a := of_decide_eq_true h
    exact runs_sys [100000,100001,1,2,0] (by kernel_rfl) (by decide) (by kernel_rfl) (ke_n hkd hlen hcs hM x (z + 1) (by omega) hv (hk.skip (by rw [hcn]; exact hle)) (smemM (o := o) (k := k) hsw (.a st lo n h1 h2 h3)))
   ·have hle : ¬ (kd.getInt z 1) ≤ a := of_decide_eq_false h
    obtain ⟨a1,a2⟩ := hk.apply (by rw [hcn]; exact hle)
    refine ⟨⟨hv,im_len hv rfl hk.im4,cyD_ok hkd hcs hlt⟩,fun hs=>⟨fun h=>?_,fun _=>?_⟩⟩
    ·rw [c4] at a1; rw [bne_iff_ne] at h; exact absurd a1 h
    ·exact runs_sys [100000,100001,1,2,0] (by kernel_rfl) (by decide) (by kernel_rfl) (ke_n hkd hlen hcs hM x (z + 1) (by omega) (D.like_is _ _) (by rw [D.like_to]; rw [c4] at a2; exact a2) (smemM (o := o) (k := k) hsw (.a st lo n h1 h2 h3)))
  | b st h1 h2 h3 =>
   rw [keB_c,wrapj (by omega)]
   refine ⟨fun _=>⟨⟨by omega,by omega,hkd.size hlt⟩,c1,fun h=>?_,fun h=>?_⟩,fun h=>absurd (of_decide_eq_false h) (by omega)⟩
   ·have hle : (kd.getInt z 1) ≤ a := of_decide_eq_true h
    exact runs_sys [100000,100001,1,2] (by kernel_rfl) (by decide) (by kernel_rfl) (ke_n hkd hlen hcs hM x (z + 1) (by omega) hv (hk.skip (by rw [hcn]; exact hle)) (smemM (o := o) (k := k) hsw (.b st h1 h2 h3)))
   ·have hle : ¬ (kd.getInt z 1) ≤ a := of_decide_eq_false h
    obtain ⟨a1,a2⟩ := hk.apply (by rw [hcn]; exact hle)
    refine ⟨⟨hv,im_len hv rfl hk.im4,cyD_ok hkd hcs hlt⟩,fun hs=>⟨fun h=>?_,fun _=>?_⟩⟩
    ·rw [c4] at a1; rw [bne_iff_ne] at h; exact absurd a1 h
    ·exact runs_sys [100000,100001,1,2] (by kernel_rfl) (by decide) (by kernel_rfl) (ke_n hkd hlen hcs hM x (z + 1) (by omega) (D.like_is _ _) (by rw [D.like_to]; rw [c4] at a2; exact a2) (smemM (o := o) (k := k) hsw (.b st h1 h2 h3)))
theorem ke_m {w : World} {H : HV} {R : Value → World → Prop} {l m : D} {j j' : Int} {q : Nat} {pb : Nat → Nat} {s : Sx.Sys} (hlow : w.heap.size ≤ q) (hok : ∀ p,p ∈ s.images → ¬ p.1 < s.r.src.applied → Kp s.r.kept p.1 p.2 s.near) (hkl : s.r.kept.length ≤ 1000) (hcs : ∀ c,c ∈ s.r.kept → CyOk c) (hw1 : IntKind.i64.wrap (j + 1) = j')
  (hL : ∀ {mm},SysMemM m s mm → Runs Try.prog ⟨w,H⟩ (keL l j' mm) R) : ∀ (x : Nat) (seen : Array Nat) {mm : Mem},leftN m.len seen ≤ x → SysMemM m s mm → Runs Try.prog (itC w H pb q (pb 100001) m.len seen) (keM l j q mm) R
 | 0,seen,mm,hx,hm=>by
  obtain ⟨o,k,nv,im,tf,tn,sv,bl,hsw,hst,he⟩ := hm
  subst he
  refine unroll_sound rfl ?_
  apply execMR_sound ctKeOk _ _ _ 400
  cases hst with
  | a st lo n h1 h2 h3 =>
   rw [keA_n]
   refine runs_mapNext (K := 100001) (kk := .i64) (ag := false) (ts := [.slc]) (d := m) (x := .tmp 41) (dst := some 42) (by kernel_rfl) (by kernel_rfl) (by kernel_rfl) (by decide) hlow ?_ fun y i hy1 hy2 hi=>?_
   ·refine runs_offIt (execMR_sound ctKeOk [6] [] [] 400 (keNx [1] (putS (keNxT l j q) (some 42) (.tup [.lb false])) (sysM o k nv m im tf tn s.r s.far s.numbers (.view 0 5 lo n) [(0,.arr 65 st)])) ?_)
    rw [keA_o,hw1]
    exact runs_sys [100000,100001,1,2,0] (by kernel_rfl) (by decide) (by kernel_rfl) (hL (smemM (o := o) (k := k) hsw (.a st lo n h1 h2 h3)))
   ·have hl := leftN_push hy1 hy2; omega
  | b st h1 h2 h3 =>
   rw [keB_n]
   refine runs_mapNext (K := 100001) (kk := .i64) (ag := false) (ts := [.slc]) (d := m) (x := .tmp 41) (dst := some 42) (by kernel_rfl) (by kernel_rfl) (by kernel_rfl) (by decide) hlow ?_ fun y i hy1 hy2 hi=>?_
   ·refine runs_offIt (execMR_sound ctKeOk [6] [] [] 400 (keNx [1] (putS (keNxT l j q) (some 42) (.tup [.lb false])) (sysM o k nv m im tf tn s.r s.far s.numbers (.dat st) [])) ?_)
    rw [keB_o,hw1]
    exact runs_sys [100000,100001,1,2] (by kernel_rfl) (by decide) (by kernel_rfl) (hL (smemM (o := o) (k := k) hsw (.b st h1 h2 h3)))
   ·have hl := leftN_push hy1 hy2; omega
 | x + 1,seen,mm,hx,hm=>by
  obtain ⟨o,k,nv,im,tf,tn,sv,bl,hsw,hst,he⟩ := hm
  subst he
  refine unroll_sound rfl ?_
  apply execMR_sound ctKeOk _ _ _ 400
  cases hst with
  | a st lo n h1 h2 h3 =>
   rw [keA_n]
   refine runs_mapNext (K := 100001) (kk := .i64) (ag := false) (ts := [.slc]) (d := m) (x := .tmp 41) (dst := some 42) (by kernel_rfl) (by kernel_rfl) (by kernel_rfl) (by decide) hlow ?_ fun y i hy1 hy2 hi=>?_
   ·refine runs_offIt (execMR_sound ctKeOk [6] [] [] 400 (keNx [1] (putS (keNxT l j q) (some 42) (.tup [.lb false])) (sysM o k nv m im tf tn s.r s.far s.numbers (.view 0 5 lo n) [(0,.arr 65 st)])) ?_)
    rw [keA_o,hw1]
    exact runs_sys [100000,100001,1,2,0] (by kernel_rfl) (by decide) (by kernel_rfl) (hL (smemM (o := o) (k := k) hsw (.a st lo n h1 h2 h3)))
   ·refine execMR_sound ctKeOk [6] [] [] 400 (keNx [1] (putS (keNxT l j q) (some 42) (.tup [.lb true,.int .i64 (m.getInt i 0),.dat (m.cell i 1)])) (sysM o k nv m im tf tn s.r s.far s.numbers (.view 0 5 lo n) [(0,.arr 65 st)])) ?_
    rw [keA_e]
    refine runs_mapEntry (K := 100001) (kk := .i64) (ag := false) (ts := [.slc]) (d := m) (x := .tmp 41) (dst := some 44) (by kernel_rfl) (by kernel_rfl) (by kernel_rfl) (by decide) hy1 fun p hp=>?_
    refine execMR_sound ctKeOk [6] [] [] 400 (keEn [1,2,3,4] (putS (keEnT l m j q i) (some 44) (.tup [.int .i64 (m.getInt p 0),.dat (m.cell p 1)])) (sysM o k nv m im tf tn s.r s.far s.numbers (.view 0 5 lo n) [(0,.arr 65 st)])) ?_
    rw [keA_b]
    have hl := leftN_push hy1 hy2
    refine ⟨fun h=>?_,fun h=>?_⟩
    ·exact runs_sys [100000,100001,1,2,0] (by kernel_rfl) (by decide) (by kernel_rfl) (ke_m hlow hok hkl hcs hw1 @hL x (seen.push y) (by omega) (smemM (o := o) (k := k) hsw (.a st lo n h1 h2 h3)))
    ·have hp' : p < s.images.length := by rw [← hsw.m.len]; exact hp
     obtain ⟨u,u1,u2,u3⟩ := hsw.m.row p _ (List.getElem?_eq_getElem hp')
     have g1 : m.getInt p 0 = (s.images[p]).1 := by simp [D.getInt,D.cellAt,u1]
     have g2 : m.cell p 1 = u := by simp [D.cell,D.cellAt,u1]
     rw [g2]
     refine runs_sys [100000,100001,1,2,0] (by kernel_rfl) (by decide) (by kernel_rfl) (ke_n (m := m) (kd := k.like s.r.kept) (a := m.getInt p 0) (D.like_is _ _) (by rw [like_leng]; omega) (by rw [D.like_to]; exact hcs) (fun hm=>ke_m hlow hok hkl hcs hw1 @hL x (seen.push y) (by omega) hm) (k.like s.r.kept).len 0 (by omega) u2 ?_ (smemM (o := o) (k := k) hsw (.a st lo n h1 h2 h3)))
     rw [D.like_to,List.drop_zero,u3,g1]
     exact hok _ (List.getElem_mem hp') (by rw [← g1]; exact of_decide_eq_false h)
  | b st h1 h2 h3 =>
   rw [keB_n]
   refine runs_mapNext (K := 100001) (kk := .i64) (ag := false) (ts := [.slc]) (d := m) (x := .tmp 41) (dst := some 42) (by kernel_rfl) (by kernel_rfl) (by kernel_rfl) (by decide) hlow ?_ fun y i hy1 hy2 hi=>?_
   ·refine runs_offIt (execMR_sound ctKeOk [6] [] [] 400 (keNx [1] (putS (keNxT l j q) (some 42) (.tup [.lb false])) (sysM o k nv m im tf tn s.r s.far s.numbers (.dat st) [])) ?_)
    rw [keB_o,hw1]
    exact runs_sys [100000,100001,1,2] (by kernel_rfl) (by decide) (by kernel_rfl) (hL (smemM (o := o) (k := k) hsw (.b st h1 h2 h3)))
   ·refine execMR_sound ctKeOk [6] [] [] 400 (keNx [1] (putS (keNxT l j q) (some 42) (.tup [.lb true,.int .i64 (m.getInt i 0),.dat (m.cell i 1)])) (sysM o k nv m im tf tn s.r s.far s.numbers (.dat st) [])) ?_
    rw [keB_e]
    refine runs_mapEntry (K := 100001) (kk := .i64) (ag := false) (ts := [.slc]) (d := m) (x := .tmp 41) (dst := some 44) (by kernel_rfl) (by kernel_rfl) (by kernel_rfl) (by decide) hy1 fun p hp=>?_
    refine execMR_sound ctKeOk [6] [] [] 400 (keEn [1,2,3,4] (putS (keEnT l m j q i) (some 44) (.tup [.int .i64 (m.getInt p 0),.dat (m.cell p 1)])) (sysM o k nv m im tf tn s.r s.far s.numbers (.dat st) [])) ?_
    rw [keB_b]
    have hl := leftN_push hy1 hy2
    refine ⟨fun h=>?_,fun h=>?_⟩
    ·exact runs_sys [100000,100001,1,2] (by kernel_rfl) (by decide) (by kernel_rfl) (ke_m hlow hok hkl hcs hw1 @hL x (seen.push y) (by omega) (smemM (o := o) (k := k) hsw (.b st h1 h2 h3)))
    ·have hp' : p < s.images.length := by rw [← hsw.m.len]; exact hp
     obtain ⟨u,u1,u2,u3⟩ := hsw.m.row p _ (List.getElem?_eq_getElem hp')
     have g1 : m.getInt p 0 = (s.images[p]).1 := by simp [D.getInt,D.cellAt,u1]
     have g2 : m.cell p 1 = u := by simp [D.cell,D.cellAt,u1]
     rw [g2]
     refine runs_sys [100000,100001,1,2] (by kernel_rfl) (by decide) (by kernel_rfl) (ke_n (m := m) (kd := k.like s.r.kept) (a := m.getInt p 0) (D.like_is _ _) (by rw [like_leng]; omega) (by rw [D.like_to]; exact hcs) (fun hm=>ke_m hlow hok hkl hcs hw1 @hL x (seen.push y) (by omega) hm) (k.like s.r.kept).len 0 (by omega) u2 ?_ (smemM (o := o) (k := k) hsw (.b st h1 h2 h3)))
     rw [D.like_to,List.drop_zero,u3,g1]
     exact hok _ (List.getElem_mem hp') (by rw [← g1]; exact of_decide_eq_false h)
theorem ke_loop {l : D} (hl : l.Is St3) (hlen : l.len ≤ 40) (w : World) (H : HV) : ∀ (q j : Nat) {s : Sx.Sys} {mm : Mem},j + q = l.len → Run s j → SysMem s mm → Runs Try.prog ⟨w,H⟩ (keL l j mm) (RetS w H (.lb true))
 | 0,j,s,mm,hj,hr,hm=>by
  obtain ⟨o,k,nv,m,im,tf,tn,sv,bl,hsw,hst,he⟩ := hm
  subst he
  refine unroll_sound rfl ?_
  apply execRE_sound ctKeOk _ 400
  cases hst with
  | a st lo n h1 h2 h3 =>
   rw [keA_go]
   exact ⟨fun h=>absurd (of_decide_eq_true h) (by omega),fun _=>leaf_ret (f := Try.f6) (l := [.lb true]) (by kernel_rfl) (by kernel_rfl) ret_lbt⟩
  | b st h1 h2 h3 =>
   rw [keB_go]
   exact ⟨fun h=>absurd (of_decide_eq_true h) (by omega),fun _=>leaf_ret (f := Try.f6) (l := [.lb true]) (by kernel_rfl) (by kernel_rfl) ret_lbt⟩
 | q + 1,j,s,mm,hj,hr,hm=>by
  have hlt : j < (l.to St3).length := by rw [← D.Is.length (α := St3)]; omega
  have hcell := st_cell hl hlt
  have hsz : l.sz = 3 := hl.size hlt
  have hnum := hr.2.1
  have hx : ∀ mm,SysMem (stepS s (l.getInt j 0,l.getInt j 1,l.getInt j 2)).1 mm → Runs Try.prog ⟨w,H⟩ (backK (keF l j) mm) (RetS w H (.lb true)) := fun mm hm=>by
   have hr' := hr.step (by omega) (l.getInt j 0,l.getInt j 1,l.getInt j 2)
   generalize (stepS s (l.getInt j 0,l.getInt j 1,l.getInt j 2)).1 = s at hr' hm
   have hok : ∀ p,p ∈ s.images → ¬ p.1 < s.r.src.applied → Kp s.r.kept p.1 p.2 s.near := by
    obtain ⟨⟨A,S,Sf,Af,K,h,_⟩,_⟩ := hr'
    exact fun p=>kp_of h
   have hkl : s.r.kept.length ≤ 1000 := by
    obtain ⟨⟨A,S,Sf,Af,K,h,hK⟩,_⟩ := hr'
    rw [h.r]; show K.length ≤ 1000; omega
   have hcs := hr'.inv.cy.1
   have ih : ∀ {mm},SysMem s mm → Runs Try.prog ⟨w,H⟩ (keL l ((j + 1 : Nat) : Int) mm) (RetS w H (.lb true)) := fun hm=>ke_loop hl hlen w H q (j + 1) (by omega) hr' hm
   obtain ⟨o,k,nv,m,im,tf,tn,sv,bl,hsw,hst,he⟩ := hm
   subst he
   apply execMR_sound ctKeOk _ _ _ 400
   cases hst with
   | a st lo n h1 h2 h3 =>
    rw [keA_k1]
    refine runs_mapRange (K := 100001) (kk := .i64) (ag := false) (ts := [.slc]) (d := m) (t := 59) (x := .tmp 40) (dst := some 41) (kt := 3) (et := 23) (by kernel_rfl) (by kernel_rfl) (by kernel_rfl) (by kernel_rfl) fun pb q hq=>?_
    refine execMR_sound ctKeOk [6] [] [] 400 (keRg l j [] (putS (keRgT l j) (some 41) (.raw (itV q))) (sysM o k nv m im tf tn s.r s.far s.numbers (.view 0 5 lo n) [(0,.arr 65 st)])) ?_
    rw [keA_r]
    exact runs_sys [100000,100001,1,2,0] (by kernel_rfl) (by decide) (by kernel_rfl) (ke_m hq hok hkl hcs (wrapj (by omega)) (fun hm=>ih hm.mem) (leftN m.len #[]) #[] (Nat.le_refl _) (smemM (o := o) (k := k) hsw (.a st lo n h1 h2 h3)))
   | b st h1 h2 h3 =>
    rw [keB_k1]
    refine runs_mapRange (K := 100001) (kk := .i64) (ag := false) (ts := [.slc]) (d := m) (t := 59) (x := .tmp 40) (dst := some 41) (kt := 3) (et := 23) (by kernel_rfl) (by kernel_rfl) (by kernel_rfl) (by kernel_rfl) fun pb q hq=>?_
    refine execMR_sound ctKeOk [6] [] [] 400 (keRg l j [] (putS (keRgT l j) (some 41) (.raw (itV q))) (sysM o k nv m im tf tn s.r s.far s.numbers (.dat st) [])) ?_
    rw [keB_r]
    exact runs_sys [100000,100001,1,2] (by kernel_rfl) (by decide) (by kernel_rfl) (ke_m hq hok hkl hcs (wrapj (by omega)) (fun hm=>ih hm.mem) (leftN m.len #[]) #[] (Nat.le_refl _) (smemM (o := o) (k := k) hsw (.b st h1 h2 h3)))
  obtain ⟨o,k,nv,m,im,tf,tn,sv,bl,hsw,hst,he⟩ := hm
  subst he
  refine unroll_sound rfl ?_
  apply execRE_sound ctKeOk _ 400
  cases hst with
  | a st lo n h1 h2 h3 =>
   rw [keA_go]
   refine ⟨fun _=>⟨⟨by omega,by omega,hsz⟩,hcell,?_⟩,fun h=>absurd (of_decide_eq_false h) (by omega)⟩
   exact meth_law (step_meth hr.inv _ _ _ (by omega) (hr.app _ _)) (g := keF l j) (sysM o k nv m im tf tn s.r s.far s.numbers (.view 0 5 lo n) [(0,.arr 65 st)]) [100000,100001,1,2,0] (smem hsw (.a st lo n h1 h2 h3)) hx
  | b st h1 h2 h3 =>
   rw [keB_go]
   refine ⟨fun _=>⟨⟨by omega,by omega,hsz⟩,hcell,?_⟩,fun h=>absurd (of_decide_eq_false h) (by omega)⟩
   exact meth_law (step_meth hr.inv _ _ _ (by omega) (hr.app _ _)) (g := keF l j) (sysM o k nv m im tf tn s.r s.far s.numbers (.dat st) []) [100000,100001,1,2] (smem hsw (.b st h1 h2 h3)) hx
theorem lawKee : Law Try.prog 6 (rdD.one.sp spFol) := by
 refine law_in _ (by kernel_rfl) fun H w l hok hp=>?_
 have hl := hp _ (List.mem_singleton.2 rfl)
 apply exec_sound ctLSOk 400
 rw [show rdD.one.canon l = [.dat l] from rfl,ke_in]
 simp only [four_to,err4,ok4,img4]
 refine fun hs0 hs1 hs2=>⟨four_is _,fun hs3=>⟨fun h=>absurd h (by decide),fun _=>⟨fun _=>⟨fun _=>ret_lbt,fun h=>absurd h (by decide)⟩,fun hlen=>?_⟩⟩⟩
 have hlen : l.len ≤ 40 := by have := of_decide_eq_false hlen; omega
 refine begin_to 65 72 5 8 21 22 23 (keL l 0 [(2,.arr 72 (.slc none 8 [])),(1,.arr 72 (.slc none 8 [])),(0,.arr 65 (.slc none 5 [])),
  (100000,.cells 62 (rlL (hs0 0 0) (hs0 0 1) beginS.r ++ [.dat ((hs3 0 0).like im0),.mapp 100001,.int .i64 1,.int .i64 2,.int .i64 0,.int .i64 0,.dat ((hs3 0 0).like im0),.view 0 5 0 0,.vec 1,.vec 2,.int .i64 0])),(100001,.mapD .i64 false [.slc] (.slc none 0 [[.int .i64 0,(hs3 0 0).like im0]]))]) (by kernel_rfl) ?_
 exact runs_sys [100000,100001,1,2,0] (by kernel_rfl) (by decide) (by kernel_rfl) (ke_loop hl hlen w H l.len 0 (by omega) run_begin (begin_mem (hs0 0 0) (hs0 0 1) ((hs3 0 0).like im0) (D.like_is _ _) (D.like_to _ _)))
end Sv
end
