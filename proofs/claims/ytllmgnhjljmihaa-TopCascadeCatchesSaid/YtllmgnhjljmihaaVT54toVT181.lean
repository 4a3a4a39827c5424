/- Images: copies, walked. -/
import Derived.KernelRfl
import Derived.Test.YtllmgnhjljmihaaFrtoVT53
import Derived.Test.YtllmgnhjljmihaaOutoSp
import Derived.Laws.CopyOwn
import Derived.Shelf.Bits.Mul64
import Derived.Test.YtllmgnhjljmihaaProg
set_option linter.all false
set_option maxRecDepth 100000
set_option maxHeartbeats 0
noncomputable section
open Go Go.Proofs Sx
namespace Sv
def mcL (d : D) (o : SV) (j : Int) : Conf := Conf.mk (SFrm.mk 139 none none [Item.inLoop (cA 139 [1,1,0,1,0,0]),Item.inBlock 0,Item.code (cA 139 [1,1,1])] (mkJ 0 [(1,.fn 125 [] []),(5,o),(11,.dat d),(12,.int .i64 (d.len : Int)),(13,.int .i64 j)] 0 25)) [] []
section
variable (im : D) (j : Int) (o : Value)
theorem mc_in : goM Try.prog [] [] [(139,MidK.build)] 300 (unroll (mcL im (.raw o) j)) =
 Tree.br (decide (j < (↑(D.len im) : Int)))
 (.need (0 ≤ j ∧ j < (↑(D.len im) : Int) ∧ D.sz im = 1)
 (.need (D.HasCell im (Int.toNat j) 0 FT.slc)
 (.br
 (nilOf
 (evS
 (putS
 [.dat (D.cell im (Int.toNat j) 0),SV.undef,.nils,SV.undef,SV.undef,SV.undef,SV.undef,SV.undef]
 (some 3)
 (evS
 [.dat (D.cell im (Int.toNat j) 0),SV.undef,.nils,SV.undef,SV.undef,SV.undef,SV.undef,
 SV.undef]
 (Operand.tmp 0)))
 (Operand.tmp 3))
 (D.cell im (Int.toNat j) 0))
 (.leaf
 (Conf.mk
 (SFrm.mk 139 (some (oA 139 [1,1,0,1,0,0,1,1,0,0,1],[4,5,6])) none
 [Item.inBlock 1,Item.code (cA 139 [1,1,0,1,0,0,1,1,1]),
 Item.inLoop (cA 139 [1,1,0,1,0,0]),Item.inBlock 0,
 Item.code (cA 139 [1,1,1])]
 (mkJ 0
 [(1,SV.fn 125 [] []),(5,SV.raw o),(7,.dat (D.cell im (Int.toNat j) 0)),(11,.dat im),
 (12,.int .i64 (↑(D.len im) : Int)),(13,.int .i64 j),
 (14,.bool (decide (j < (↑(D.len im) : Int)))),(15,SV.elt im (Int.toNat j) 0),
 (16,.dat (D.cell im (Int.toNat j) 0)),(17,SV.raw o),(18,SV.fn 125 [] []),
 (19,.dat (D.cell im (Int.toNat j) 0)),(20,.nils)]
 0 25))
 [] []))
 (.all fun hs =>
 .need
 (D.sz (D.slc (D.hd (hs 0 0)) 8 []) = 8 ∧
 D.Fits (D.cell im (Int.toNat j) 0) 8 ∧
 (D.len (D.slc (D.hd (hs 0 0)) 8 []) + D.len (D.cell im (Int.toNat j) 0)) * 8 ≤ 140737488355328 ∧
 D.len (D.slc (D.hd (hs 0 0)) 8 []) + D.len (D.cell im (Int.toNat j) 0) ≤ 9223372036854775807)
 (.all fun hs_1 =>
 .leaf
 (Conf.mk
 (SFrm.mk 139 (some (oA 139 [1,1,0,1,0,0,1,1,0,0,1],[4,5,6])) none
 [Item.inBlock 1,Item.code (cA 139 [1,1,0,1,0,0,1,1,1]),
 Item.inLoop (cA 139 [1,1,0,1,0,0]),Item.inBlock 0,
 Item.code (cA 139 [1,1,1])]
 (mkJ 0
 [(1,SV.fn 125 [] []),(5,SV.raw o),(7,.dat (D.cell im (Int.toNat j) 0)),(11,.dat im),
 (12,.int .i64 (↑(D.len im) : Int)),(13,.int .i64 j),
 (14,.bool (decide (j < (↑(D.len im) : Int)))),(15,SV.elt im (Int.toNat j) 0),
 (16,.dat (D.cell im (Int.toNat j) 0)),(17,SV.raw o),(18,SV.fn 125 [] []),
 (19,.dat (D.cell im (Int.toNat j) 0)),(20,.vec 2007)]
 0 25))
 []
 [(2007,
 OBlk.arr 141
 (D.slc (D.hd (hs_1 0 0)) 8
 (List.append (D.rows (D.slc (D.hd (hs 0 0)) 8 []))
 (D.rows (D.cell im (Int.toNat j) 0)))))]))))))
 (.ret (SV.raw o)) := by kernel_rfl
end
def apL (o l : D) (j : Int) : Conf := Conf.mk (SFrm.mk 74 none none [Item.inLoop (cA 74 [1,1,1,0,1,0,0]),Item.inBlock 0,Item.code (cA 74 [1,1,1,1])] (mkJ 0 [(8,.dat o),(19,.dat l),(20,.int .i64 (l.len : Int)),(21,.int .i64 j)] 0 46)) [] []
section
variable (o l im : D) (j : Int)
theorem apl_go : 
 let z2 := (D.getInt l (Int.toNat j) 0)
 let z4 := (D.cell o (Int.toNat z2) 0)
 let z6 := (D.getInt l (Int.toNat j) 1)
 let z1 := (WtD.mk z2 z6 (D.cell l (Int.toNat j) 2))
 let z3 : List SV := [.int .i64 z2,.int .i64 z6,.dat (D.cell l (Int.toNat j) 2)]
 let z5 := (fitsErr (volSizes (D.to Vol o)) (WtD.wt z1))
 goM Try.prog ctImA [] [(74,MidK.copy)] 300 (unroll (apL o l j)) =
 Tree.br (decide (j < (↑(D.len l) : Int))) (.need (0 ≤ j ∧ j < (↑(D.len l) : Int) ∧ D.sz l = 3) (.need (D.HasCells l (Int.toNat j) 0 [FT.int .i64,FT.int .i64,FT.slc]) (.need (ImgOk o ∧ WtD.Ok z1) (.br
 (fitsErr (volSizes (D.to Vol o)) (WtD.wt z1) != 0) (.ret (SV.tup [.nils,.int .i64 j,.int .i64 z5])) (.all fun hs=>.need (0 ≤ D.getInt l (Int.toNat j) 0 ∧ D.getInt l (Int.toNat j) 0 < (↑(D.len o) : Int) ∧ D.sz o = 1)
 (.need (D.HasCell o (Int.toNat z2) 0 FT.slc) (.need (0 ≤ D.getInt l (Int.toNat j) 1 ∧ D.getInt l (Int.toNat j) 1 ≤ (↑(D.len z4) : Int) ∧ (↑(D.len z4) : Int) ≤ (↑(D.len z4) : Int) ∧ D.Fits z4 8) (.leaf
 (Conf.mk (SFrm.mk 74 (some (oA 74 [1,1,1,0,1,0,0,1,1,0,0,1,1],[10])) none [Item.inBlock 1,Item.code (cA 74 [1,1,1,0,1,0,0,1,1,1]),Item.inLoop (cA 74 [1,1,1,0,1,0,0]),Item.inBlock 0,Item.code
 (cA 74 [1,1,1,1])] (mkJ 0 [(8,.dat o),(9,.int .i64 j),(10,.ptr 1010 0),(11,.int .i64 z5),(19,.dat l),(20,.int .i64 (↑(D.len l) : Int)),(21,.int .i64 j),(22,.bool (decide (j < (↑(D.len l) : Int)))),
 (23,.int .i64 j),(24,SV.elt l (Int.toNat j) 0),(25,.agg z3),(26,.dat o),(27,.agg z3),(28,.int .i64 z5),(29,.int .i64 z5),(30,.bool (fitsErr (volSizes (D.to Vol o)) (WtD.wt z1) != 0)),(33,.dat o),
 (34,.ptr 1010 0),(35,.int .i64 z2),(36,SV.elt o (Int.toNat z2) 0),(37,.dat z4),(38,.ptr 1010 1),(39,.int .i64 z6),(40,.dat (D.sub z4 (Int.toNat z6) (Int.toNat (↑(D.len z4) : Int)))),(41,.ptr 1010 2),
 (42,.dat (D.cell l (Int.toNat j) 2))] 0 46)) [] [(1010,OBlk.cells 148 z3)]))))))))) (.ret (SV.tup [.dat o,.int .i64 0,.int .i64 0])) := by
 intros; kernel_rfl
theorem apc_in : goM Try.prog ctImA [(113,0),(113,1),(113,2),(113,3)] [] 300 (entry Try.prog 74 [.dat im,.dat l]) =
 Tree.need (D.Is Vol im ∧ D.len im ≤ 1048576)
 (.br (sizesErr (volSizes (D.to Vol im)) != 0)
 (.ret (SV.tup [.nils,.int .i64 0,.int .i64 (sizesErr (volSizes (D.to Vol im)))]))
 (.leaf
 (Conf.mk
 (SFrm.mk 113 none none [Item.code (cA 113 [0]),Item.code (cA 113 [1])]
 (mkJ 1 [(0,.dat im)] 0 5))
 [SFrm.mk 74 (some (oA 74 [1,1,0],[2])) (some 18) [Item.code (cA 74 [1,1,1])]
 (mkJ 0 [(1,.dat l)] 0 46)]
 []))) := by kernel_rfl
end
def mcB (im d : D) (o : SV) (j : Int) : Conf := Conf.mk (SFrm.mk 139 (some (oA 139 [1,1,0,1,0,0,1,1,0,0,1],[4,5,6])) none [Item.inBlock 1,Item.code (cA 139 [1,1,0,1,0,0,1,1,1]),Item.inLoop (cA 139 [1,1,0,1,0,0]),Item.inBlock 0,Item.code (cA 139 [1,1,1])] (mkJ 0 [(1,SV.fn 125 [] []),(11,.dat im),(12,.int .i64 (im.len : Int)),(13,.int .i64 j),(17,o),(20,.dat d)] 0 25)) [] []
section
variable (im d : D) (j : Int) (o : Value)
theorem mcb_go : goM Try.prog [] [] [(139,MidK.append)] 300 (mcB im d (.raw o) j) =
 Tree.all fun hs =>
 .leaf
 (Conf.mk
 (SFrm.mk 139 (some (oA 139 [1,1,0,1,0,0,1,1,0,0,1],[5,6])) none
 [Item.inBlock 1,Item.code (cA 139 [1,1,0,1,0,0,1,1,1]),
 Item.inLoop (cA 139 [1,1,0,1,0,0]),Item.inBlock 0,Item.code (cA 139 [1,1,1])]
 (mkJ 0
 [(1,SV.fn 125 [] []),(11,.dat im),(12,.int .i64 (↑(D.len im) : Int)),
 (13,.int .i64 j),(17,SV.raw o),(20,.dat d),(21,.vec 1021)]
 0 25))
 [] [(1021,OBlk.arr 129 (D.slc (D.hd (hs 0 0)) 1 [[d]]))]) := by kernel_rfl
end
def mcC (im : D) (o : SV) (j : Int) : Conf := Conf.mk (SFrm.mk 139 (some (oA 139 [1,1,0,1,0,0,1,1,0,0,1],[6])) none [Item.inBlock 1,Item.code (cA 139 [1,1,0,1,0,0,1,1,1]),Item.inLoop (cA 139 [1,1,0,1,0,0]),Item.inBlock 0,Item.code (cA 139 [1,1,1])] (mkJ 0 [(1,SV.fn 125 [] []),(11,.dat im),(12,.int .i64 (im.len : Int)),(13,.int .i64 j),(22,o)] 0 25)) [] []
section
variable (im d : D) (j : Int) (o : Value)
theorem mcc_go : goM Try.prog [] [] [] 300 (mcC im (.raw o) j) =
 Tree.leaf
 (Conf.mk
 (SFrm.mk 139 none none
 [Item.inLoop (cA 139 [1,1,0,1,0,0]),Item.inBlock 0,Item.code (cA 139 [1,1,1])]
 (mkJ 0
 [(1,SV.fn 125 [] []),(5,SV.raw o),(11,.dat im),(12,.int .i64 (↑(D.len im) : Int)),
 (13,.int .i64 (IntKind.wrap .i64 (j + 1)))]
 0 25))
 [] []) := by kernel_rfl
end
def cpA (im : D) : Conf := Conf.mk (SFrm.mk 113 none none [Item.code (cA 113 [0]),Item.code (cA 113 [1])] (mkJ 0 [(0,.dat im)] 0 5)) [] []
def cpB (o : SV) : Conf := Conf.mk (SFrm.mk 113 (some (oA 113 [1,0],[2])) none [Item.code (cA 113 [1,1])] (mkJ 0 [(4,o)] 0 5)) [] []
def apE (o l : D) : Conf := Conf.mk (SFrm.mk 74 (some (oA 74 [1,1,0],[2])) none [Item.code (cA 74 [1,1,1])] (mkJ 0 [(1,.dat l),(18,.dat o)] 0 46)) [] []
section
variable (im o l : D) (j : Int) (v : Value)
theorem cpa_go : goM Try.prog [] [] [] 300 (cpA im) =
 Tree.need
 ((0 : Int) ≤ 0 ∧
 0 ≤ (↑(D.len im) : Int) ∧
 (↑24 : Int) * (↑(D.len im) : Int) ≤ 281474976710656 ∧ (↑(D.len im) : Int) ≤ 9223372036854775807)
 (.all fun hs =>
 .leaf
 (Conf.mk
 (SFrm.mk 139 none none
 [Item.inLoop (cA 139 [1,1,0,1,0,0]),Item.inBlock 0,Item.code (cA 139 [1,1,1])]
 (mkJ 1
 [(1,SV.fn 125 [] []),(5,.vec 0),(11,.dat im),(12,.int .i64 (↑(D.len im) : Int)),
 (13,.int .i64 0)]
 0 25))
 [SFrm.mk 113 (some (oA 113 [1,0],[2])) (some 4) [Item.code (cA 113 [1,1])]
 (mkJ 0 [(0,.dat im),(2,.nils),(3,.dat im)] 0 5)]
 [(0,OBlk.arr 129 (D.slc (D.hd (hs 0 0)) 1 (List.replicate 0 [D.slc none 0 []])))])) := by kernel_rfl
theorem cpb_go : goM Try.prog [] [] [] 300 (cpB (.raw v)) =
 Tree.ret (SV.raw v) := by kernel_rfl
theorem ape_go : goM Try.prog [] [] [] 300 (apE o l) =
 Tree.leaf
 (Conf.mk
 (SFrm.mk 74 none none
 [Item.inLoop (cA 74 [1,1,1,0,1,0,0]),Item.inBlock 0,Item.code (cA 74 [1,1,1,1])]
 (mkJ 0 [(8,.dat o),(19,.dat l),(20,.int .i64 (↑(D.len l) : Int)),(21,.int .i64 0)] 0
 46))
 [] []) := by kernel_rfl
end
def apB (o l : D) (j : Int) : Conf := Conf.mk (SFrm.mk 74 (some (oA 74 [1,1,1,0,1,0,0,1,1,0,0,1,1],[])) none [Item.inBlock 1,Item.code (cA 74 [1,1,1,0,1,0,0,1,1,1]),Item.inLoop (cA 74 [1,1,1,0,1,0,0]),Item.inBlock 0,Item.code (cA 74 [1,1,1,1])] (mkJ 0 [(8,.dat o),(19,.dat l),(20,.int .i64 (l.len : Int)),(21,.int .i64 j)] 0 46)) [] []
section
variable (o l : D) (j : Int)
theorem apb_go : goM Try.prog ctImA [] [] 300 (apB o l j) =
 Tree.leaf
 (Conf.mk
 (SFrm.mk 74 none none
 [Item.inLoop (cA 74 [1,1,1,0,1,0,0]),Item.inBlock 0,Item.code (cA 74 [1,1,1,1])]
 (mkJ 0
 [(8,.dat o),(19,.dat l),(20,.int .i64 (↑(D.len l) : Int)),
 (21,.int .i64 (IntKind.wrap .i64 (j + 1)))]
 0 46))
 [] []) := by kernel_rfl
end
end Sv
end
noncomputable section
open Go
namespace Sx
end Sx
namespace Sx
theorem cell_okd {H : HV} {d : D} (hd : d.Ok H) {i j : Nat} : (d.cell i j).Ok H := by
 unfold D.cell D.cellAt
 cases hr : d.rows[i]? with
 | none=>exact .nil 0
 | some r =>
  cases hx : r[j]? with
  | none=>simp [hx]; exact .nil 0
  | some x =>
   simp only [Option.bind_some,hx,Option.getD_some]
   cases hd with
   | slc a c sz rows hsp hc hlen hcell hok=>exact hok r (List.mem_of_getElem? hr) x (List.mem_of_getElem? hx)
   | _=>simp [D.rows] at hr
end Sx
namespace Sx
end Sx
namespace Sx
end Sx
end
noncomputable section
open Go
namespace Sx


instance : Plain Sec where
 cells _ _ s := [.int .u8 s.b0,.int .u8 s.b1,.int .u8 s.b2,.int .u8 s.b3,.int .u8 s.b4,.int .u8 s.b5,.int .u8 s.b6,.int .u8 s.b7]
 right d i r _ h := by obtain ⟨_,_,_,_,_,_,_,_,rfl⟩ := h; rfl
instance : Plain Ev where
 cells _ _ e := [.int .i64 e.kind,.int .i64 e.write]
 right d i r _ h := by obtain ⟨_,_,rfl⟩ := h; rfl
instance : Plain Wt where
 cells d i w := [.int .i64 w.vol,.int .i64 w.start,(d.cell i 2).plain w.data]
 right d i r h ho := by
  obtain ⟨a,b,v,rfl,hv⟩ := ho
  obtain ⟨p1,p2,p3,rfl⟩ := hv.slc
  have e1 : d.cell i 2 = .slc p1 p2 p3 := by simp [D.cell,D.cellAt,h]
  simp only [Codec.dec,e1,plain_self hv]


structure TlOrd (i : Int) (t : Tl) : Prop where
 lt : ∀ w : Nat,w < t.issued.length → t.issued.getD w 0 < i
 inc : ∀ a b : Nat,a < b → b < t.issued.length → t.issued.getD a 0 < t.issued.getD b 0
 aft : ∀ w : Nat,w < t.issued.length → 0 ≤ t.acked.getD w 0 → t.issued.getD w 0 < t.acked.getD w 0
 len : t.acked.length = t.issued.length
theorem getD_app1 {l : List Int} {x : Int} {w : Nat} (h : w < l.length) : (l ++ [x]).getD w 0 = l.getD w 0 := by
 simp [List.getElem?_append_left h]
theorem getD_app2' {l : List Int} {x : Int} {w : Nat} (h : w = l.length) : (l ++ [x]).getD w 0 = x := by subst h; simp
theorem getD_set1 {l : List Int} {x : Int} {k w : Nat} (h : k ≠ w) : (l.set k x).getD w 0 = l.getD w 0 := by
 simp [h]
theorem getD_set2 {l : List Int} {x : Int} {k : Nat} (h : k < l.length) : (l.set k x).getD k 0 = x := by simp [h]
theorem evStep_ord {n : Nat} {i : Int} {t : Tl} {e : Ev} (hi : 0 ≤ i) (h : TlOrd i t) (h0 : (evStep n i t e).1 = 0) : TlOrd (i + 1) (evStep n i t e).2 := by
 unfold evStep at h0 ⊢
 split at h0
 ·rename_i hk
  rw [if_pos hk]
  split at h0
  ·exact absurd h0 (by simp)
  ·rename_i hc
   rw [if_neg hc]
   refine ⟨fun w hw=>?_,fun a b hab hb=>?_,fun w hw ha=>?_,by simp [h.len]⟩
   ·simp only [List.length_append,List.length_singleton] at hw ⊢
    by_cases e : w < t.issued.length
    ·rw [getD_app1 e]; have := h.lt w e; omega
    ·rw [getD_app2' (by omega)]; omega
   ·simp only [List.length_append,List.length_singleton] at hb ⊢
    by_cases e : b < t.issued.length
    ·rw [getD_app1 e,getD_app1 (by omega)]; exact h.inc a b hab e
    ·rw [getD_app2' (w := b) (by omega),getD_app1 (by omega)]; exact h.lt a (by omega)
   ·simp only [List.length_append,List.length_singleton] at hw ha ⊢
    by_cases e : w < t.issued.length
    ·have e' : w < t.acked.length := by rw [h.len]; exact e
     rw [getD_app1 (l := t.acked) e'] at ha ⊢
     rw [getD_app1 (l := t.issued) e]; exact h.aft w e ha
    ·rw [getD_app2' (by rw [h.len]; omega)] at ha; omega
 ·rename_i hk
  rw [if_neg hk]
  split at h0
  ·rename_i hk1
   rw [if_pos hk1]
   split at h0
   ·exact absurd h0 (by simp)
   ·rename_i hc
    rw [if_neg hc]
    split at h0
    ·exact absurd h0 (by simp)
    ·rename_i hd
     rw [if_neg hd]
     refine ⟨fun w hw=>?_,fun a b hab hb=>h.inc a b hab hb,fun w hw ha=>?_,by simp [h.len]⟩
     ·have := h.lt w hw; simp only; omega
     ·simp only at hw ha ⊢
      by_cases e : e.write.toNat = w
      ·subst e
       rw [getD_set2 (by rw [h.len]; omega)]
       exact h.lt _ hw
      ·rw [getD_set1 e] at ha ⊢
       exact h.aft w hw ha
  ·exact absurd h0 (by simp)
theorem runEv_ord {n : Nat} {l : List Ev} : ∀ j,j ≤ l.length → (runEv n l j).1 = 0 → TlOrd j (runEv n l j).2
 | 0,_,_=>⟨fun w hw=>absurd hw (by simp [runEv]),fun a b _ hb=>absurd hb (by simp [runEv]),fun w hw=>absurd hw (by simp [runEv]),by simp [runEv]⟩
 | j + 1,hj,h0=>by
  unfold runEv at h0 ⊢
  split at h0
  ·rename_i h1; exact absurd h0 h1
  ·rename_i h1
   rw [if_neg h1]
   have e : l[j]? = some l[j] := by simp [show j < l.length by omega]
   rw [e] at h0 ⊢
   simp only at h0 ⊢
   have := evStep_ord (n := n) (e := l[j]) (by omega) (runEv_ord j (by omega) (by simpa using h1)) h0
   simpa using this
theorem checkH_run {h : Hist} (hc : (checkH h).1 = 0) : (runEv h.writes.length h.events h.events.length).1 = 0 ∧ (checkH h).2 = (runEv h.writes.length h.events h.events.length).2 := by
 unfold checkH at hc ⊢
 split at hc
 ·rename_i h1; exact absurd hc h1
 ·rename_i h1
  rw [if_neg h1]
  split at hc
  ·exact absurd hc (by simp)
  ·rename_i h2
   rw [if_neg h2]
   split at hc
   ·rename_i h3; exact absurd hc h3
   ·rename_i h3
    rw [if_neg h3]
    split at hc
    ·rename_i h4; exact absurd hc h4
    ·rename_i h4
     rw [if_neg h4]
     split at hc
     ·exact absurd hc (by simp)
     ·rename_i h5
      rw [if_neg h5]
      exact ⟨by simpa using h4,rfl⟩
theorem places {h : Hist} (hc : (checkH h).1 = 0) :
  (∀ a b : Int,a < b → 0 ≤ a → b < h.writes.length → atEv h.events ⟨0,a⟩ < atEv h.events ⟨0,b⟩) ∧
  (∀ a : Int,0 ≤ atEv h.events ⟨1,a⟩ → 0 ≤ a ∧ a < h.writes.length ∧ atEv h.events ⟨0,a⟩ < atEv h.events ⟨1,a⟩) ∧
  ∀ a : Int,0 ≤ atEv h.events ⟨0,a⟩ ↔ 0 ≤ a ∧ a < h.writes.length := by
 obtain ⟨htl,hlen,_⟩ := checkH_ok hc
 obtain ⟨h0,h2⟩ := checkH_run hc
 have ho := runEv_ord _ (Nat.le_refl _) h0
 rw [← h2] at ho
 have hI : ∀ w : Nat,w < h.writes.length → (checkH h).2.issued.getD w 0 = atEv h.events ⟨0,w⟩ ∧ 0 ≤ atEv h.events ⟨0,w⟩ := fun w hw=>by
  have := htl.iss w (by omega)
  rw [← this.1]
  exact ⟨getD_lt (by omega),this.2⟩
 have hA : ∀ w : Nat,w < h.writes.length → (checkH h).2.acked.getD w 0 = atEv h.events ⟨1,w⟩ := fun w hw=>by
  rw [← htl.ack w (by have := htl.len; omega)]
  exact getD_lt (by have := htl.len; omega)
 have hout : ∀ a : Int,¬(0 ≤ a ∧ a < h.writes.length) → atEv h.events ⟨0,a⟩ = -1 ∧ atEv h.events ⟨1,a⟩ = -1 := fun a ha=>htl.not a (by omega)
 refine ⟨fun a b hab h1 h2=>?_,fun a ha=>?_,fun a=>⟨fun ha=>?_,fun ha=>?_⟩⟩
 ·obtain ⟨x,rfl⟩ := Int.eq_ofNat_of_zero_le h1
  obtain ⟨y,rfl⟩ := Int.eq_ofNat_of_zero_le (show 0 ≤ b by omega)
  rw [← (hI x (by omega)).1,← (hI y (by omega)).1]
  exact ho.inc x y (by omega) (by omega)
 ·have hr : 0 ≤ a ∧ a < h.writes.length := by
   rcases Classical.em (0 ≤ a ∧ a < h.writes.length) with h | h
   ·exact h
   ·rw [(hout a h).2] at ha; exact absurd ha (by decide)
  obtain ⟨x,rfl⟩ := Int.eq_ofNat_of_zero_le hr.1
  refine ⟨hr.1,hr.2,?_⟩
  rw [← hA x (by omega)] at ha ⊢
  rw [← (hI x (by omega)).1]
  exact ho.aft x (by omega) ha
 ·rcases Classical.em (0 ≤ a ∧ a < h.writes.length) with h | h
  ·exact h
  ·rw [(hout a h).1] at ha; exact absurd ha (by decide)
 ·obtain ⟨x,rfl⟩ := Int.eq_ofNat_of_zero_le ha.1
  exact (hI x (by omega)).2
theorem contains_iff {l : List Int} {x : Int} : l.contains x = true ↔ x ∈ l := List.contains_iff_mem
structure GrD where
 h : HiD
 wt : D
 hd : D
 fz : Bool
def GrD.Right (x : GrD) : Prop := x.h.Right ∧ x.wt.Is Int ∧ x.hd.Is Int ∧ x.wt.len ≤ 1048576 ∧ x.hd.len ≤ 1048576

section
variable {P : Program} {w : World} {H : HV}
end

section
variable {P : Program} {w : World} {H : HV}
end






def iss (l : List Ev) : Nat := l.countP fun e=>decide (e.kind = 0)
/-! Restricted. -/
/-! Durable. -/
/-! Freeze and Thaw. -/
/-! Issue. -/

section
variable {h : Hist} (hc : (checkH h).1 = 0) {p : Nat} (hp : p ≤ h.writes.length)
include hc hp
end

theorem sizes_len {s : List Int} (h : sizesErr s = 0) : s.length ≤ 8 ∧ ∀ x,x ∈ s → 1 ≤ x ∧ x ≤ 4096 := by
 unfold sizesErr at h
 split at h
 ·exact absurd h (by decide)
 ·split at h
  ·exact absurd h (by decide)
  ·rename_i h1 h2
   refine ⟨by omega,fun x hx=>?_⟩
   have h2 : s.any badSize = false := by simpa using h2
   have := List.any_eq_false.1 h2 x hx
   simp only [badSize,Bool.or_eq_true,decide_eq_true_eq,not_or] at this
   omega
/-! The acknowledgements. -/
/-! As data. -/
def putW (im : List Vol) (w : Wt) : List Vol :=
 im.set w.vol.toNat ⟨(im.getD w.vol.toNat ⟨[]⟩).l.take w.start.toNat ++ w.data ++ (im.getD w.vol.toNat ⟨[]⟩).l.drop (w.start.toNat + w.data.length)⟩
def applyV : Nat → List Wt → List Vol → List Vol × Int × Int
 | _,[],im=>(im,0,0)
 | i,w :: r,im=>if fitsErr (volSizes im) w ≠ 0 then ([],(i : Int),fitsErr (volSizes im) w) else applyV (i + 1) r (putW im w)
def applyI (im : List Vol) (l : List Wt) : List Vol × Int × Int := if sizesErr (volSizes im) ≠ 0 then ([],0,sizesErr (volSizes im)) else applyV 0 l im
def spApplyI (x : D × D) : SpecR := .data [x.1.Is Vol ∧ x.1.len ≤ 1048576 ∧ x.2.Is Wt ∧ x.2.len ≤ 1048576 ∧ ∀ w,w ∈ x.2.to Wt → w.data.length ≤ 1048576] fun ds=>.tup [.dat ((ds 0).like (applyI (x.1.to Vol) (x.2.to Wt)).1),.int .i64 (applyI (x.1.to Vol) (x.2.to Wt)).2.1,.int .i64 (applyI (x.1.to Vol) (x.2.to Wt)).2.2]
theorem vs_len (im : List Vol) : (volSizes im).length = im.length := by simp [volSizes]
theorem vs_get (im : List Vol) {v : Nat} (h : v < im.length) : (volSizes im).getD v 0 = ((im.getD v ⟨[]⟩).l.length : Int) := by
 rw [List.getD_eq_getElem?_getD,List.getD_eq_getElem?_getD]
 simp [volSizes,h]
theorem fits_ok {im : List Vol} {w : Wt} (h : fitsErr (volSizes im) w = 0) : 0 ≤ w.vol ∧ w.vol.toNat < im.length ∧ w.data.length ≠ 0 ∧ 0 ≤ w.start ∧ w.start.toNat + w.data.length ≤ (im.getD w.vol.toNat ⟨[]⟩).l.length := by
 unfold fitsErr at h
 split at h
 ·exact absurd h (by decide)
 ·rename_i h1
  split at h
  ·exact absurd h (by decide)
  ·rename_i h2
   split at h
   ·exact absurd h (by decide)
   ·rename_i h3
    rw [vs_len] at h1
    have hv : w.vol.toNat < im.length := by omega
    rw [vs_get im hv] at h3
    exact ⟨by omega,hv,h2,by omega,by omega⟩
theorem putW_sizes {im : List Vol} {w : Wt} (h : fitsErr (volSizes im) w = 0) : volSizes (putW im w) = volSizes im := by
 obtain ⟨h1,h2,h3,h4,h5⟩ := fits_ok h
 unfold putW volSizes
 rw [List.map_set]
 have e : (((im.getD w.vol.toNat ⟨[]⟩).l.take w.start.toNat ++ w.data ++ (im.getD w.vol.toNat ⟨[]⟩).l.drop (w.start.toNat + w.data.length)).length : Int) = (im.map fun v=>(v.l.length : Int))[w.vol.toNat]'(by simpa using h2) := by
  have hg : im.getD w.vol.toNat ⟨[]⟩ = im[w.vol.toNat] := by rw [List.getD_eq_getElem?_getD,List.getElem?_eq_getElem h2]; rfl
  rw [hg] at h5 ⊢
  simp only [List.length_append,List.length_take,List.length_drop,List.getElem_map]
  omega
 simp only [e,List.set_getElem_self]
end Sx
end
noncomputable section
open Go Go.Proofs Sx
namespace Sv
theorem ctImAOk : Ctrs.Ok Try.prog ctImA := by
 intro x hx
 rcases List.mem_cons.1 hx with rfl | hx
 ·exact ctrOf_ok lawChkI
 ·rw [List.mem_singleton.1 hx]; exact ctrOf_ok lawFits1
theorem cp_at : callAt (oA 74 [1,1,1,0,1,0,0,1,1,0,0,1,1]) 10 = some (.copy,[.tmp 40,.tmp 42],[129,129],some 43) := by kernel_rfl
theorem sec_ty : Try.prog.underlying 129 = some (.slice 141) := by kernel_rfl
theorem sec_sz : (Try.prog.info? 141).map (·.size) = some 8 := by kernel_rfl
def applyR (w0 : World) (H0 : HV) (r : List Vol × Int × Int) : Value → World → Prop := RetD w0 H0 fun ds=>.tup [.dat ((ds 0).like r.1),.int .i64 r.2.1,.int .i64 r.2.2]
theorem ret_app {w0 w : World} {H0 H : HV} (a : After w0 H0 w H) {X : SV} {vs : List Vol} {k m : Int} (hx : Stands Vol X vs) : (Tree.ret (.tup [X,.int .i64 k,.int .i64 m])).holds Try.prog ⟨w,H⟩ (applyR w0 H0 (vs,k,m)) := by
 obtain ⟨d,k1,k2,k3,k4⟩ := hx
 refine ⟨rfl,fun E H' w' g hv=>⟨H',a.trans (after_good g),fun _=>d,fun E'=>?_,?_⟩⟩
 ·simp only [SV.den,SV.denL,k1,D.like_self k2 k3]
 ·simp only [SV.Ok,SV.OkL] at hv ⊢
  rw [D.like_self k2 k3]
  exact ⟨⟨k4 _ hv.1,k2.slc⟩,trivial,trivial,trivial⟩
theorem ap_loop {w0 : World} {H0 : HV} (hin0 : InMem H0 w0) {l : D} (hl : l.Ok H0) (li : l.Is Wt) (ll : l.len ≤ 1048576) (ld : ∀ w,w ∈ l.to Wt → w.data.length ≤ 1048576) :
  ∀ (k j : Nat) (o : D) (H : HV) (w : World),j ≤ (l.to Wt).length → (l.to Wt).length - j = k → After w0 H0 w H → ImgW w0.heap.size H w o → sizesErr (volSizes (o.to Vol)) = 0 →
   At Try.prog (apL o l j) H w (applyR w0 H0 (applyV j ((l.to Wt).drop j) (o.to Vol))) := by
 intro k
 induction k with
 | zero =>
  intro j o H w hj hk a hI hz
  have wl := D.Is.length (α := Wt) l
  refine at_of_runs rfl (unroll_sound rfl (goM_sound ctImAOk [] [(74,MidK.copy)] 300 _ ?_))
  rw [apl_go]
  refine ⟨fun hc=>?_,fun hc=>?_⟩
  ·exfalso; have := of_decide_eq_true hc; omega
  ·rw [List.drop_eq_nil_of_le (by omega)]
   exact ret_app a (stands_dat hI.is rfl)
 | succ k ih =>
  intro j o H w hj hk a hI hz
  have wl := D.Is.length (α := Wt) l
  have ol := D.Is.length (α := Vol) o
  have hjl : j < (l.to Wt).length := by omega
  have hsz := sizes_len hz
  rw [vs_len] at hsz
  refine at_of_runs rfl (unroll_sound rfl (goM_sound ctImAOk [] [(74,MidK.copy)] 300 _ ?_))
  rw [apl_go]
  have hdrop : (l.to Wt).drop j = (l.to Wt)[j] :: (l.to Wt).drop (j + 1) := List.drop_eq_getElem_cons hjl
  rw [hdrop]
  obtain ⟨c1,c2,c3⟩ := wt_cell li hjl
  have c2 : (D.cell l (Int.toNat (j : Int)) 2).Is Sec := c2
  have hdl := ld _ (List.getElem_mem hjl)
  have e0 : (WtD.mk (D.getInt l (Int.toNat (j : Int)) 0) (D.getInt l (Int.toNat (j : Int)) 1) (D.cell l (Int.toNat (j : Int)) 2)).wt = (l.to Wt)[j] := c3.symm
  have hdd : (D.cell l (Int.toNat (j : Int)) 2).len ≤ 1048576 := by
   rw [D.Is.length (α := Sec)]
   have := congrArg (fun w=>w.data.length) e0
   simp only [WtD.wt] at this
   rw [this]; exact hdl
  have hIm : ImgOk o := ⟨hI.is,by omega,fun v hv=>by
   have hm : (v.l.length : Int) ∈ volSizes (o.to Vol) := List.mem_map.2 ⟨v,hv,rfl⟩
   have := hsz.2 _ hm; omega⟩
  rw [e0]
  refine ⟨fun hc=>⟨⟨by omega,by omega,li.size hjl⟩,c1,⟨hIm,c2,hdd⟩,fun he=>?_,fun he hs0=>?_⟩,fun hc=>?_⟩
  ·have he : fitsErr (volSizes (o.to Vol)) (l.to Wt)[j] ≠ 0 := by simpa using he
   unfold applyV
   rw [if_pos he]
   exact ret_app a stands_nils
  ·have he : fitsErr (volSizes (o.to Vol)) (l.to Wt)[j] = 0 := by simpa using he
   obtain ⟨f1,f2,f3,f4,f5⟩ := fits_ok he
   have ev : D.getInt l (Int.toNat (j : Int)) 0 = ((l.to Wt)[j]).vol := by rw [← e0]; rfl
   have es : D.getInt l (Int.toNat (j : Int)) 1 = ((l.to Wt)[j]).start := by rw [← e0]; rfl
   have ed : (D.cell l (Int.toNat (j : Int)) 2).to Sec = ((l.to Wt)[j]).data := by rw [← e0]; rfl
   have hap : applyV j ((l.to Wt)[j] :: (l.to Wt).drop (j + 1)) (o.to Vol) = applyV (j + 1) ((l.to Wt).drop (j + 1)) (putW (o.to Vol) (l.to Wt)[j]) := by
    conv=>lhs; unfold applyV
    rw [if_neg (by simp [he])]
   rw [hap]
   have hps := putW_sizes he
   generalize hw : (l.to Wt)[j] = wr at *
   obtain ⟨V,hV⟩ := Int.eq_ofNat_of_zero_le f1
   obtain ⟨S,hS⟩ := Int.eq_ofNat_of_zero_le f4
   have hVl : V < o.len := by rw [hV] at f2; rw [ol]; simpa using f2
   obtain ⟨r1,r2,r3⟩ := vol_row hI.is hVl
   have hVg : (o.to Vol).getD V ⟨[]⟩ = ⟨(o.cell V 0).to Sec⟩ := by rw [List.getD_eq_getElem?_getD,r3]; rfl
   have il := D.Is.length (α := Sec) (o.cell V 0)
   have dl := D.Is.length (α := Sec) (D.cell l (Int.toNat (j : Int)) 2)
   rw [ed] at dl
   have f5 : S + wr.data.length ≤ (o.cell V 0).len := by
    rw [hV,hS] at f5
    simp only [Int.toNat_natCast] at f5
    rw [hVg] at f5
    rw [il]; exact f5
   rw [ev,es,hV,hS,Int.toNat_natCast V,Int.toNat_natCast S]
   obtain ⟨ci,hci⟩ := hI.hd V hVl
   refine ⟨⟨by omega,by omega,hI.sz⟩,?_,⟨by omega,by omega,by omega,r2.fits⟩,?_⟩
   ·obtain ⟨q1,q2,q3,q4,_⟩ := r2
    exact ⟨q1,q2,q3,by simp only [D.cellAt,r1,Option.bind_some,List.getElem?_cons_zero,← q4]⟩
   ·-- the copy
    generalize hwd : D.cell l (Int.toNat (j : Int)) 2 = wd at *
    intro E H1 w1 g1 ok1
    have a1 := after_good g1
    have hI1 := hI.mono a1
    have wdok : wd.Ok H1 := by rw [← hwd]; exact (cell_okd hl).mono (a.le.trans a1.le)
    obtain ⟨cur,t,hg⟩ := hI1.live V hVl
    have hrs := (rows_of c2).1
    have hsl : S + wd.rows.length ≤ (o.cell V 0).len := by
     have : wd.rows.length = wr.data.length := dl
     rw [this]; exact f5
    obtain ⟨H2,p1,p2,p3,p4,p5,p6⟩ := hI1.put hVl hrs hsl g1.cell hg rfl
    have h8 : ∀ r,r ∈ wd.rows → r.length = 8 := fun r hr=>(sec_plain hI1 hVl hrs hsl (hrs r hr)).1
    have hlen8 : (flat wd.rows).length = wd.rows.length * 8 := flat_len h8
    have hbn := hI1.low V hVl
    have ao : After w0 H0 (w1.setRow (blk o V) (cur.toList.take (S * 8) ++ flat wd.rows ++ cur.toList.drop (S * 8 + (flat wd.rows).length)).toArray) H2 := by
     have a01 := a.trans a1
     refine ⟨below_setRow a01.below hbn _,p3 H0 a01.le fun x=>?_,fun b x u hb=>?_,p1⟩
     ·cases hx : H0 (blk o V) x with
      | none=>rfl
      | some u =>
       have := hin0 _ _ _ hx
       have : blk o V < w0.heap.size := by
        unfold World.cell? at this
        simp only at this
        cases hh : w0.heap[blk o V]? with
        | none=>rw [hh] at this; cases this
        | some q=>exact (Array.getElem?_eq_some_iff.1 hh).1
       omega
     ·rcases p4 b x u hb with h | h
      ·exact a01.fresh b x u h
      ·exact .inr (by rw [h]; exact hbn)
    have hisz : (o.cell V 0).sz = 8 := r2.size (i := 0) (by rw [← il]; have : wd.rows.length = wr.data.length := dl; omega)
    have hcap : (o.cell V 0).len ≤ ci := by
     have hq : (o.cell V 0).Ok H := by
      have := cell_okd hI.ok (i := V) (j := 0)
      exact this
     revert hci
     generalize o.cell V 0 = q at hq
     intro hci
     cases hq with
     | slc a c sz rows hsp hc hlen hcell hk=>simp only [D.hd,Option.some.injEq,Prod.mk.injEq] at hci; rw [← hci.2]; exact hc
     | nil sz=>simp [D.hd] at hci
     | int _ _=>simp [D.hd] at hci
     | bool _=>simp [D.hd] at hci
     | str _=>simp [D.hd] at hci
    have hpos : 0 < wd.rows.length := by
     have : wd.rows.length = wr.data.length := dl
     omega
    have hsub : (D.sub (o.cell V 0) S (Int.toNat ((o.cell V 0).len : Int))).val = .slice (some ⟨blk o V,S * 8,none⟩) ((o.cell V 0).len - S) (ci - S) := by
     unfold D.sub
     rw [hci,hisz]
     simp only [D.val,Option.map_some,hval]
     have hne : ¬ci = S := by omega
     rw [if_neg hne,add_none rfl,Int.toNat_natCast,List.length_take,List.length_drop]
     have : (o.cell V 0).rows.length = (o.cell V 0).len := rfl
     rw [this,Nat.min_self,Nat.zero_add]
    obtain ⟨wh,wz,wrows,rfl,wz1,wz2⟩ := c2
    have hwne : wrows ≠ [] := fun e=>by rw [e] at hpos; simp [D.rows] at hpos
    have wz1 : wz = 8 := wz1.resolve_left hwne
    subst wz1
    have hreads := reads_data g1.cell wdok
    obtain ⟨q1,q2⟩ := hreads
    rcases q2 with ⟨_,q2⟩ | ⟨wa,wc,q2,q3⟩
    ·exact absurd q2 hwne
    have hmin : Nat.min wrows.length ((o.cell V 0).len - S) = wrows.length := Nat.min_eq_left (by
     have : (D.slc wh 8 wrows).rows.length = wrows.length := rfl
     omega)
    have e40 : ∀ E,(SV.dat (D.sub (o.cell V 0) S (Int.toNat ((o.cell V 0).len : Int)))).den E = .slice (some ⟨blk o V,S * 8,none⟩) ((o.cell V 0).len - S) (ci - S) := fun E=>by simp only [SV.den]; exact hsub
    have e42 : ∀ E,(SV.dat (D.slc wh 8 wrows)).den E = .slice (some wa) wrows.length wc := fun E=>by simp only [SV.den]; exact q2
    refine stk_builtin (u := goInt (Nat.min wrows.length ((o.cell V 0).len - S))) (w' := w1.setRow (blk o V) (cur.toList.take (S * 8) ++ flat wrows ++ cur.toList.drop (S * 8 + (flat wrows).length)).toArray) (E' := E) cp_at (fun ty=>?_) (fun _ _ _=>rfl) ?_
    ·have hrun' := run_copy_sz (P := Try.prog) w1 129 129 ty 141 (blk o V) (S * 8) ((o.cell V 0).len - S) (ci - S) wa wrows.length wc 8 cur t (flat wrows) sec_ty sec_sz hg (by rw [hmin]; exact hlen8) q3 p5 (flat_one _)
     show (builtin .copy _ ty #[] #[(SV.dat (D.sub (o.cell V 0) S (Int.toNat ((o.cell V 0).len : Int)))).den E,(SV.dat (D.slc wh 8 wrows)).den E]).run _ _ = _
     rw [e40,e42]
     simp only [builtin,Sem.run_bind,Result.andThen_ok,Sem.run_pure]
     rw [hrun']
     rfl
    ·have hpv : (o.putSec V S wrows).val = o.val := put_val hI1 hVl hrs hsl
     have hto : (o.putSec V S wrows).to Vol = (o.to Vol).set V ⟨((o.cell V 0).to Sec).take S ++ wrows.map Codec.dec ++ ((o.cell V 0).to Sec).drop (S + wrows.length)⟩ := put_to hI1 hVl hrs hsl
     have hput : (o.putSec V S wrows).to Vol = putW (o.to Vol) wr := by
      rw [hto]
      unfold putW
      rw [hV,hS,Int.toNat_natCast,Int.toNat_natCast,hVg,← ed]
      simp only [D.to,D.rows,List.length_map]
     refine stk_to (E := E) (sl := [(8,.dat (o.putSec V S wrows)),(19,.dat l),(20,.int .i64 (l.len : Int)),(21,.int .i64 (j : Int))]) (n := 46) rfl (fun p hp=>?_) (fun p hp=>?_) p1 (at_of_runs rfl (goM_sound ctImAOk [] [] 300 _ ?_))
     ·simp only [List.mem_cons,List.not_mem_nil,or_false] at hp
      rcases hp with rfl | rfl | rfl | rfl
      ·simp only [SV.den]; rw [hpv]; rfl
      ·rfl
      ·rfl
      ·rfl
     ·simp only [List.mem_cons,List.not_mem_nil,or_false] at hp
      rcases hp with rfl | rfl | rfl | rfl
      ·exact ⟨p2.ok,p2.is.slc⟩
      ·exact ⟨hl.mono ao.le,li.slc⟩
      ·trivial
      ·trivial
     ·show (goM Try.prog ctImA [] [] 300 (apB (o.putSec V S wrows) l j)).holds _ _ _
      rw [apb_go,wrap_succ hjl (by omega)]
      intro E3 H3 w3 g3 ok3
      have a3 := after_good g3
      have := ih (j + 1) (o.putSec V S wrows) H3 w3 hjl (by omega) (ao.trans a3) (p2.mono a3) (by rw [hput,hps]; exact hz)
      rw [hput] at this
      exact this E3 ok3 g3.cell
  ·exfalso; have := of_decide_eq_false hc; omega
theorem mc_at : callAt (oA 139 [1,1,0,1,0,0,1,1,0,0,1]) 5 = some (.append,[.tmp 17,.tmp 21],[22,22],some 22) := by kernel_rfl
theorem img_ty : Try.prog.underlying 22 = some (.slice 129) := by kernel_rfl
theorem sec_info : ∃ i z,Try.prog.info? 129 = some i ∧ i.zero = some z ∧ z.cells.size = i.size ∧ i.size = 1 ∧ i.bytes ≤ 1000 := by
 have h : ((Try.prog.info? 129).any fun i=>(i.zero.any fun z=>z.cells.size == i.size) && i.size == 1 && decide (i.bytes ≤ 1000)) = true := by kernel_rfl
 cases hi : Try.prog.info? 129 with
 | none=>rw [hi] at h; cases h
 | some i =>
  rw [hi] at h
  simp only [Option.any_some,Bool.and_eq_true,beq_iff_eq,decide_eq_true_eq] at h
  obtain ⟨⟨h1,h2⟩,h3⟩ := h
  cases hz : i.zero with
  | none=>rw [hz] at h1; cases h1
  | some z =>
   rw [hz] at h1
   simp only [Option.any_some,beq_iff_eq] at h1
   exact ⟨i,z,rfl,hz,h1,h2,h3⟩
theorem mc_loop {w0 : World} {H0 : HV} {im : D} (him : im.Is Vol) (hok : im.Ok H0) (hsz : ∀ v,v ∈ im.to Vol → 1 ≤ v.l.length ∧ v.l.length ≤ 1048576) (hlen : im.len ≤ 1048576) (hpos : 0 < im.len) :
  ∀ (k j : Nat) (ov : Value) (ds : List D) (H : HV) (w : World),j ≤ im.len → im.len - j = k → After w0 H0 w H → BuildI w0.heap.size H w 129 ov ds → ds.map (fun d=>Vol.mk (d.to Sec)) = (im.to Vol).take j →
   At Try.prog (mcL im (.raw ov) j) H w (CpR w0 H0 (im.to Vol)) := by
 intro k
 induction k with
 | zero =>
  intro j ov ds H w hj hk a b hto
  have il := D.Is.length (α := Vol) im
  refine at_of_runs rfl (unroll_sound rfl (goM_sound (noCtr _) [] [(139,MidK.build)] 300 _ ?_))
  rw [mc_in]
  refine ⟨fun hc=>?_,fun hc=>?_⟩
  ·exfalso; have := of_decide_eq_true hc; omega
  ·rw [List.take_of_length_le (by omega)] at hto
   refine ret_img a b (fun e=>?_) hto
   have := congrArg List.length hto
   rw [e] at this
   simp only [List.map_nil,List.length_nil] at this
   omega
 | succ k ih =>
  intro j ov ds H w hj hk a b hto
  have il := D.Is.length (α := Vol) im
  have hjl : j < im.len := by omega
  obtain ⟨r1,r2,r3⟩ := vol_row him hjl
  have hv : Vol.mk ((im.cell j 0).to Sec) ∈ im.to Vol := List.mem_of_getElem? r3
  have hvl := hsz _ hv
  have cl := D.Is.length (α := Sec) (im.cell j 0)
  have hcl : 1 ≤ (im.cell j 0).len ∧ (im.cell j 0).len ≤ 1048576 := by rw [cl]; exact hvl
  refine at_of_runs rfl (unroll_sound rfl (goM_sound (noCtr _) [] [(139,MidK.build)] 300 _ ?_))
  rw [mc_in]
  refine ⟨fun hc=>⟨⟨by omega,by omega,him.size (i := j) (by rw [← il]; exact hjl)⟩,?_,fun hn=>?_,fun hn=>?_⟩,fun hc=>?_⟩
  ·obtain ⟨q1,q2,q3,q4,_⟩ := r2
   rw [Int.toNat_natCast]
   exact ⟨q1,q2,q3,by simp only [D.cellAt,r1,Option.bind_some,List.getElem?_cons_zero,← q4]⟩
  ·exfalso
   have hq : (im.cell j 0).Ok H0 := cell_okd hok
   have hn : (im.cell (Int.toNat (j : Int)) 0).isNil = true := hn
   rw [Int.toNat_natCast] at hn
   revert hcl hn
   generalize im.cell j 0 = q at hq
   intro hcl hn
   cases hq with
   | slc a c sz rows hsp hc hlen hcell hk=>cases hn
   | nil sz=>simp [D.len,D.rows] at hcl
   | int _ _=>simp [D.len,D.rows] at hcl
   | bool _=>simp [D.len,D.rows] at hcl
   | str _=>simp [D.len,D.rows] at hcl
  ·intro hs
   rw [Int.toNat_natCast]
   refine ⟨⟨rfl,r2.fits,?_,?_⟩,fun hs1=>?_⟩
   ·show (0 + (im.cell j 0).len) * 8 ≤ _; omega
   ·show 0 + (im.cell j 0).len ≤ _; omega
   ·intro E1 H1 w1 g1 ok1
    obtain ⟨H2,a2,_,hin2,hden⟩ := pub_inner g1 (k := 2007) (d := D.slc (D.hd (hs1 0 0)) 8 (List.append (D.rows (D.slc (D.hd (hs 0 0)) 8 [])) (D.rows (D.cell im j 0)))) rfl (is_rows rfl fun r hr=>(rows_of r2).1 r hr) (fun e=>by
     have : (im.cell j 0).len = 0 := congrArg List.length (show (im.cell j 0).rows = [] from e)
     omega)
    generalize hd : D.slc (D.hd (hs1 0 0)) 8 (List.append (D.rows (D.slc (D.hd (hs 0 0)) 8 [])) (D.rows (D.cell im j 0))) = d at *
    have hdto : d.to Sec = (im.cell j 0).to Sec := by rw [← hd]; rfl
    have a02 := a.trans a2
    have b2 := b.mono a2
    have hin0 := hin2.low (n' := w0.heap.size) a.below.size
    refine stk_to (E := E1) (sl := [(1,.fn 125 [] []),(11,.dat im),(12,.int .i64 (im.len : Int)),(13,.int .i64 j),(17,.raw ov),(20,.dat d)]) (n := 25) rfl (fun p hp=>?_) (fun p hp=>?_) a2.cell (at_of_runs rfl (goM_sound (noCtr _) [] [(139,MidK.append)] 300 _ ?_))
    ·simp only [List.mem_cons,List.not_mem_nil,or_false] at hp
     rcases hp with rfl | rfl | rfl | rfl | rfl | rfl
     ·rfl
     ·rfl
     ·rfl
     ·rfl
     ·rfl
     ·simp only [SV.den]; rw [← hden]; rfl
    ·simp only [List.mem_cons,List.not_mem_nil,or_false] at hp
     rcases hp with rfl | rfl | rfl | rfl | rfl | rfl
     ·exact ⟨trivial,trivial⟩
     ·exact ⟨hok.mono a02.le,him.slc⟩
     ·trivial
     ·trivial
     ·trivial
     ·exact ⟨hin2.2.1,hin2.1.slc⟩
    ·show (goM Try.prog [] [] [(139,MidK.append)] 300 (mcB im d (.raw ov) j)).holds _ _ _
     rw [mcb_go]
     intro hs2 E3 H3 w3 g3 ok3
     obtain ⟨i,z,q1,q2,q3,q4,q5⟩ := sec_info
     have hdl : ds.length = j := by
      have := congrArg List.length hto
      rw [List.length_map,List.length_take] at this
      omega
     obtain ⟨w4,ov',hrun,a4,b4⟩ := build_append (P := Try.prog) (ty := 22) (k := 1021) (hh := D.hd (hs2 0 0)) (d := d) img_ty q1 q2 q3 q4 q5 a02 b2 hin0 (innerOk.fresh hin2 b) g3 rfl (by omega) (key := 7777) rfl
     refine stk_builtin (u := ov') (w' := w4) (E' := E3) mc_at (fun ty=>?_) (fun _ _ _=>rfl) ?_
     ·have := hrun
      show (builtin .append _ ty #[] #[(SV.raw ov).den E3,(SV.vec 1021).den E3]).run _ _ = _
      simp only [builtin,Sem.run_bind,Result.andThen_ok,Sem.run_pure]
      show Result.andThen (Sem.run Try.prog (Builtin.append_ #[22,22] 22 #[ov,(SV.vec 1021).den E3]) w3) _ = _
      rw [this]
      rfl
     ·refine stk_to (E := E3) (sl := [(1,.fn 125 [] []),(11,.dat im),(12,.int .i64 (im.len : Int)),(13,.int .i64 j),(22,.raw ov')]) (n := 25) rfl (fun p hp=>?_) (fun p hp=>?_) a4.cell (at_of_runs rfl (goM_sound (noCtr _) [] [] 300 _ ?_))
      ·simp only [List.mem_cons,List.not_mem_nil,or_false] at hp
       rcases hp with rfl | rfl | rfl | rfl | rfl <;> rfl
      ·simp only [List.mem_cons,List.not_mem_nil,or_false] at hp
       rcases hp with rfl | rfl | rfl | rfl | rfl
       ·exact ⟨trivial,trivial⟩
       ·exact ⟨hok.mono a4.le,him.slc⟩
       ·trivial
       ·trivial
       ·trivial
      ·show (goM Try.prog [] [] [] 300 (mcC im (.raw ov') j)).holds _ _ _
       rw [mcc_go,wrap_succ hjl (by omega)]
       intro E5 H5 w5 g5 ok5
       have a5 := after_good g5
       refine ih (j + 1) ov' (ds ++ [d]) H5 w5 hjl (by omega) (a4.trans a5) (b4.mono a5) ?_ E5 ok5 g5.cell
       rw [List.map_append,hto,List.take_add_one,r3]
       simp only [List.map_cons,List.map_nil,hdto,Option.toList_some]
  ·exfalso; have := of_decide_eq_false hc; omega
theorem cp_all {H : HV} {w : World} {im : D} (hin : InMem H w) (him : im.Is Vol) (hok : im.Ok H) (hsz : ∀ v,v ∈ im.to Vol → 1 ≤ v.l.length ∧ v.l.length ≤ 1048576) (hlen : im.len ≤ 1048576) (hpos : 0 < im.len) :
  At Try.prog (cpA im) H w (CpR w H (im.to Vol)) := by
 refine at_of_runs rfl (goM_sound (noCtr _) [] [] 300 _ ?_)
 rw [cpa_go]
 refine ⟨⟨by omega,by omega,by omega,by omega⟩,fun hs=>?_⟩
 intro E1 H1 w1 g1 ok1
 have a1 := after_good g1
 have b1 : BuildI w.heap.size H1 w1 129 ((SV.vec 0).den E1) [] := buildI_own g1 (hh := D.hd (hs 0 0)) rfl
 generalize hov : (SV.vec 0).den E1 = ov at b1
 refine stk_call (E := E1) (sl := [(1,.fn 125 [] []),(5,.raw ov),(11,.dat im),(12,.int .i64 (im.len : Int)),(13,.int .i64 0)]) (n := 25) rfl (fun p hp=>?_) (fun p hp=>?_) a1.cell (R1 := CpR w H (im.to Vol)) ?_ ?_
 ·simp only [List.mem_cons,List.not_mem_nil,or_false] at hp
  rcases hp with rfl | rfl | rfl | rfl | rfl
  ·rfl
  ·simp only [SV.den]; rw [← hov]; rfl
  ·rfl
  ·rfl
  ·rfl
 ·simp only [List.mem_cons,List.not_mem_nil,or_false] at hp
  rcases hp with rfl | rfl | rfl | rfl | rfl
  ·exact ⟨trivial,trivial⟩
  ·trivial
  ·exact ⟨hok.mono a1.le,him.slc⟩
  ·trivial
  ·trivial
 ·exact mc_loop him hok hsz hlen hpos im.len 0 ov [] H1 w1 (Nat.zero_le _) (by omega) a1 b1 rfl
 ·intro u w2 ⟨H2,o,a2,hI,hu,hto⟩
  refine stk_aw (aw := none) (stk_to (E := E1) (sl := [(4,.raw o.val)]) (n := 5) rfl (fun p hp=>?_) (fun p hp=>?_) a2.cell (at_of_runs rfl (goM_sound (noCtr _) [] [] 300 _ ?_)))
  ·rw [List.mem_singleton.1 hp,← hu]; rfl
  ·rw [List.mem_singleton.1 hp]; trivial
  ·show (goM Try.prog [] [] [] 300 (cpB (.raw o.val))).holds _ _ _
   rw [cpb_go]
   exact ⟨rfl,fun E H' w' g hv=>⟨H',o,a2.trans (after_good g),hI.mono (after_good g),rfl,hto⟩⟩
theorem lawApply : Law Try.prog 74 ((rdD.two rdD).sp spApplyI) := by
 refine law_in _ (by kernel_rfl) fun H w b hok hp=>?_
 obtain ⟨im,l⟩ := b
 obtain ⟨p1,p2,p3,p4,p5⟩ := hp _ (List.mem_singleton.2 rfl)
 apply goM_sound ctImAOk [(113,0),(113,1),(113,2),(113,3)] [] 300
 rw [show (rdD.two rdD).canon (im,l) = [.dat im,.dat l] from rfl,apc_in]
 have p2 : im.len ≤ 1048576 := p2
 have il := D.Is.length (α := Vol) im
 refine ⟨⟨p1,p2⟩,fun hc=>?_,fun hc=>?_⟩
 ·have hc : sizesErr (volSizes (im.to Vol)) ≠ 0 := by simpa using hc
  obtain ⟨d,k1,k2,k3,k4⟩ := stands_nils (α := Vol)
  refine ⟨rfl,fun E H' w' g hv=>⟨H',after_good g,fun _=>d,fun E'=>?_,?_⟩⟩
  ·simp only [applyI,if_pos hc,SV.den,SV.denL,D.like_self k2 k3]
   rw [← k1 E]; rfl
  ·simp only [SV.Ok,SV.OkL] at hv ⊢
   simp only [applyI,if_pos hc]
   rw [D.like_self k2 k3]
   exact ⟨⟨k4 _ hv.1,k2.slc⟩,trivial,trivial,trivial⟩
 ·have hc : sizesErr (volSizes (im.to Vol)) = 0 := by simpa using hc
  have hsz := sizes_len hc
  rw [vs_len] at hsz
  have hpos : 0 < im.len := by
   rw [il]
   cases hl : im.to Vol with
   | nil=>rw [hl] at hc; exact absurd hc (by decide)
   | cons x r=>exact Nat.succ_pos _
  intro E1 H1 w1 g1 ok1
  have a1 := after_good g1
  have him : im.Ok H1 := hok.1.1.mono a1.le
  have hl : l.Ok H1 := hok.2.1.1.mono a1.le
  refine stk_call (E := E1) (sl := [(0,.dat im)]) (n := 5) rfl (fun p hp=>?_) (fun p hp=>?_) g1.cell (R1 := CpR w1 H1 (im.to Vol)) ?_ ?_
  ·rw [List.mem_singleton.1 hp]; rfl
  ·rw [List.mem_singleton.1 hp]; exact ⟨him,p1.slc⟩
  ·exact cp_all g1.cell p1 him (fun v hv=>by
    have hm : (v.l.length : Int) ∈ volSizes (im.to Vol) := List.mem_map.2 ⟨v,hv,rfl⟩
    have := hsz.2 _ hm; omega) p2 hpos
  ·intro u w2 ⟨H2,o,a2,hI,hu,hto⟩
   have hE : At Try.prog (apE o l) H2 w2 (applyR w1 H1 (applyV 0 (l.to Wt) (im.to Vol))) := by
    refine at_of_runs rfl (goM_sound (noCtr _) [] [] 300 _ ?_)
    rw [ape_go]
    intro E4 H4 w4 g4 ok4
    have a4 := after_good g4
    have := ap_loop g1.cell hl p3 p4 p5 (l.to Wt).length 0 o H4 w4 (Nat.zero_le _) (by omega) (a2.trans a4) (hI.mono a4) (by rw [hto]; exact hc)
    rw [List.drop_zero,hto] at this
    exact stk_aw (this E4 ok4 g4.cell)
   refine StkRun.mono (R := applyR w1 H1 (applyV 0 (l.to Wt) (im.to Vol))) ?_ ?_
   ·intro u' w3 ⟨H3,a3,ds,hu3,hok3⟩
    refine ⟨H3,a1.trans a3,ds,fun E=>?_,?_⟩
    ·unfold applyI
     rw [if_neg (by simp [hc])]
     exact hu3 E
    ·unfold applyI
     rw [if_neg (by simp [hc])]
     exact hok3
   ·refine stk_aw (aw := none) ?_
    refine stk_to (E := E1) (sl := [(1,.dat l),(18,.dat o)]) (n := 46) rfl (fun p hp=>?_) (fun p hp=>?_) a2.cell hE
    ·simp only [List.mem_cons,List.not_mem_nil,or_false] at hp
     rcases hp with rfl | rfl
     ·rfl
     ·simp only [SV.den]; rw [← hu]; rfl
    ·simp only [List.mem_cons,List.not_mem_nil,or_false] at hp
     rcases hp with rfl | rfl
     ·exact ⟨hl.mono a2.le,p3.slc⟩
     ·exact ⟨hI.ok,hI.is.slc⟩
def ctCA : Ctrs := [(72,ctrOf (rdD.one.sp spChkI)),(73,ctrOf ((rdCy.two rdD).sp spCyCk)),(74,ctrOf ((rdD.two rdD).sp spApplyI))]
section
variable (im cp cw a b : D) (cb cn ct : Int)
theorem cya_in : exec Try.prog ctCA 400 (entry Try.prog 25 [.dat im,.agg [.int .i64 cb,.int .i64 cn,.int .i64 ct,.dat cp,.dat cw]]) =
 Tree.need (D.Is Vol im ∧ D.len im ≤ 1048576)
 (.br (sizesErr (volSizes (D.to Vol im)) != 0)
 (.ret (SV.tup [.nils,.int .i64 (sizesErr (volSizes (D.to Vol im)))]))
 (.leaf
 (Conf.mk
 (SFrm.mk 25 none none
 [Item.inLoop (cA 25 [1,1,1,0,1,0,0]),Item.inBlock 0,
 Item.code (cA 25 [1,1,1,1])]
 (mkJ 0
 [(0,.dat im),(3,.ptr 0 0),(7,.nils),(19,.dat im),
 (20,.int .i64 (↑(D.len im) : Int)),(21,.int .i64 0)]
 0 47))
 []
 [(0,
 OBlk.cells 65
 [.int .i64 cb,.int .i64 cn,.int .i64 ct,.dat cp,.dat cw])]))) := by kernel_rfl
theorem ims_in : exec Try.prog [] 400 (entry Try.prog 29 [.dat a,.dat b]) =
 Tree.br ((↑(D.len a) : Int) != (↑(D.len b) : Int)) (.ret (.lb false))
 (.leaf
 (Conf.mk
 (SFrm.mk 78 none none
 [Item.inLoop (cA 78 [1,1,0,1,0,0]),Item.inBlock 0,Item.code (cA 78 [1,1,1])]
 (mkJ 1
 [(1,.dat b),(2,SV.fn 79 [] []),(15,.dat a),(16,.int .i64 (↑(D.len a) : Int)),
 (17,.int .i64 0)]
 0 32))
 [SFrm.mk 29 (some (oA 29 [1,0],[3])) (some 7) [Item.code (cA 29 [1,1])]
 (mkU [(0,.dat a),(1,.dat b),(4,.lb false),(5,.dat a),(6,.dat b)] 0 8)]
 [])) := by kernel_rfl
theorem seq_in : exec Try.prog [] 400 (entry Try.prog 79 [.dat a,.dat b]) =
 Tree.br ((↑(D.len a) : Int) != (↑(D.len b) : Int)) (.ret (.lb false))
 (.leaf
 (Conf.mk
 (SFrm.mk 79 none none
 [Item.inLoop (cA 79 [1,1,0,1,0,0]),Item.inBlock 0,Item.code (cA 79 [1,1,1])]
 (mkJ 0 [(0,.dat a),(1,.dat b),(12,.int .i64 (↑(D.len a) : Int)),(13,.int .i64 0)] 0
 26))
 [] [])) := by kernel_rfl
end
end Sv
end
noncomputable section
namespace Sx
open Go
def spSameI (x : D × D) : SpecR := .scalar [x.1.Is Vol ∧ x.2.Is Vol ∧ x.1.len ≤ 1048576 ∧ x.2.len ≤ 1048576 ∧ (∀ v,v ∈ x.1.to Vol → v.l.length ≤ 1048576) ∧ (∀ v,v ∈ x.2.to Vol → v.l.length ≤ 1048576)] (.bool (decide (x.1.to Vol = x.2.to Vol)))
def spSameV (x : D × D) : SpecR := .scalar [x.1.Is Sec ∧ x.2.Is Sec ∧ x.1.len ≤ 1048576 ∧ x.2.len ≤ 1048576] (.bool (decide (x.1.to Sec = x.2.to Sec)))
end Sx
end
noncomputable section
open Go Go.Proofs Sx
namespace Sv
section
variable (a b : D) (j : Int)
end

def cyaL (im cp cw q : D) (cb cn ct j : Int) : Conf := Conf.mk (SFrm.mk 25 none none [Item.inLoop (cA 25 [1,1,1,0,1,0,0]),Item.inBlock 0,Item.code (cA 25 [1,1,1,1])] (mkJ 0 [(0,.dat im),(3,.ptr 0 0),(7,.vec 1),(19,.dat im),(20,.int .i64 (im.len : Int)),(21,.int .i64 j)] 0 47)) [] [(0,OBlk.cells 65 [.int .i64 cb,.int .i64 cn,.int .i64 ct,.dat cp,.dat cw]),(1,.arr 3 q)]
def seqL (a b : D) (j : Int) : Conf := Conf.mk (SFrm.mk 79 none none [Item.inLoop (cA 79 [1,1,0,1,0,0]),Item.inBlock 0,Item.code (cA 79 [1,1,1])] (mkJ 0 [(0,.dat a),(1,.dat b),(12,.int .i64 (a.len : Int)),(13,.int .i64 j)] 0 26)) [] []
def imsL (a b : D) (j : Int) : Conf := Conf.mk (SFrm.mk 78 none none [Item.inLoop (cA 78 [1,1,0,1,0,0]),Item.inBlock 0,Item.code (cA 78 [1,1,1])] (mkJ 1 [(1,.dat b),(2,SV.fn 79 [] []),(15,.dat a),(16,.int .i64 (a.len : Int)),(17,.int .i64 j)] 0 32))
 [SFrm.mk 29 (some (oA 29 [1,0],[3])) (some 7) [Item.code (cA 29 [1,1])] (mkU [(0,.dat a),(1,.dat b),(4,.lb false),(5,.dat a),(6,.dat b)] 0 8)] []
def ctSq : Ctrs := [(79,ctrOf ((rdD.two rdD).sp spSameV))]
section
variable (im cp cw q a b : D) (cb cn ct j : Int)
theorem cya_go : exec Try.prog ctCA 400 (unroll (cyaL im cp cw q cb cn ct j)) =
 Tree.br (decide (j < (↑(D.len im) : Int)))
 (.need (0 ≤ j ∧ j < (↑(D.len im) : Int) ∧ D.sz im = 1)
 (.need (D.HasCell im (Int.toNat j) 0 FT.slc)
 (.all fun hs =>
 .need
 (D.sz q = 1 ∧
 D.Fits (D.slc (D.hd (hs 0 0)) 1 [[D.int .i64 (↑(D.len (D.cell im (Int.toNat j) 0)) : Int)]]) 1 ∧
 (D.len q +
 D.len
 (D.slc (D.hd (hs 0 0)) 1 [[D.int .i64 (↑(D.len (D.cell im (Int.toNat j) 0)) : Int)]])) *
 8 ≤
 140737488355328 ∧
 D.len q +
 D.len (D.slc (D.hd (hs 0 0)) 1 [[D.int .i64 (↑(D.len (D.cell im (Int.toNat j) 0)) : Int)]]) ≤
 9223372036854775807)
 (.all fun hs_1 =>
 .leaf
 (Conf.mk
 (SFrm.mk 25 none none
 [Item.inLoop (cA 25 [1,1,1,0,1,0,0]),Item.inBlock 0,
 Item.code (cA 25 [1,1,1,1])]
 (mkJ 0
 [(0,.dat im),(3,.ptr 0 0),(7,.vec 1),(19,.dat im),
 (20,.int .i64 (↑(D.len im) : Int)),
 (21,.int .i64 (IntKind.wrap .i64 (j + 1)))]
 0 47))
 []
 [(0,
 OBlk.cells 65
 [.int .i64 cb,.int .i64 cn,.int .i64 ct,.dat cp,.dat cw]),
 (1,
 OBlk.arr 3
 (D.slc (D.hd (hs_1 0 0)) 1
 (List.append (D.rows q)
 (D.rows
 (D.slc (D.hd (hs 0 0)) 1
 [[D.int .i64 (↑(D.len (D.cell im (Int.toNat j) 0)) : Int)]])))))])))))
 (.need (CyD.Ok (CyD.mk cb cn ct cp cw) ∧ D.Is Int q ∧ D.len q ≤ 1048576)
 (.br (cyErr (CyD.cy (CyD.mk cb cn ct cp cw)) (D.to Int q) != 0)
 (.ret (SV.tup [.nils,.int .i64 (cyErr (CyD.cy (CyD.mk cb cn ct cp cw)) (D.to Int q))]))
 (.need
 (D.Is Vol im ∧
 D.len im ≤ 1048576 ∧
 D.Is Wt cw ∧ D.len cw ≤ 1048576 ∧ ∀ (w : Wt),List.Mem w (D.to Wt cw) → List.length (Wt.data w) ≤ 1048576)
 (.all fun hs =>
 .ret
 (SV.tup
 [.dat (D.like (hs 0 0) (Prod.fst (applyI (D.to Vol im) (D.to Wt cw)))),
 .int .i64 (Prod.snd (Prod.snd (applyI (D.to Vol im) (D.to Wt cw))))]))))) := by kernel_rfl
theorem seq_go : exec Try.prog [] 400 (unroll (seqL a b j)) =
 Tree.br (decide (j < (↑(D.len a) : Int)))
 (.all fun hs =>
 .need (0 ≤ j ∧ j < (↑(D.len a) : Int) ∧ D.sz a = 8)
 (.need
 (D.HasCells a (Int.toNat j) 0
 [FT.int .u8,FT.int .u8,FT.int .u8,FT.int .u8,FT.int .u8,
 FT.int .u8,FT.int .u8,FT.int .u8])
 (.need (0 ≤ j ∧ j < (↑(D.len b) : Int) ∧ D.sz b = 8)
 (.need
 (D.HasCells b (Int.toNat j) 0
 [FT.int .u8,FT.int .u8,FT.int .u8,FT.int .u8,FT.int .u8,
 FT.int .u8,FT.int .u8,FT.int .u8])
 (.br
 (!(decide (D.getInt a (Int.toNat j) 0 = D.getInt b (Int.toNat j) 0) &&
 (decide (D.getInt a (Int.toNat j) 1 = D.getInt b (Int.toNat j) 1) &&
 (decide (D.getInt a (Int.toNat j) 2 = D.getInt b (Int.toNat j) 2) &&
 (decide (D.getInt a (Int.toNat j) 3 = D.getInt b (Int.toNat j) 3) &&
 (decide (D.getInt a (Int.toNat j) 4 = D.getInt b (Int.toNat j) 4) &&
 (decide (D.getInt a (Int.toNat j) 5 = D.getInt b (Int.toNat j) 5) &&
 (decide (D.getInt a (Int.toNat j) 6 = D.getInt b (Int.toNat j) 6) &&
 (decide (D.getInt a (Int.toNat j) 7 = D.getInt b (Int.toNat j) 7) && true)))))))))
 (.ret (.lb false))
 (.leaf
 (Conf.mk
 (SFrm.mk 79 none none
 [Item.inLoop (cA 79 [1,1,0,1,0,0]),Item.inBlock 0,
 Item.code (cA 79 [1,1,1])]
 (mkJ 0
 [(0,.dat a),(1,.dat b),(12,.int .i64 (↑(D.len a) : Int)),
 (13,.int .i64 (IntKind.wrap .i64 (j + 1)))]
 0 26))
 [] [])))))))
 (.ret (.lb true)) := by kernel_rfl
theorem ims_go : exec Try.prog ctSq 400 (unroll (imsL a b j)) =
 Tree.br (decide (j < (↑(D.len a) : Int)))
 (.need (0 ≤ j ∧ j < (↑(D.len a) : Int) ∧ D.sz a = 1)
 (.need (D.HasCell a (Int.toNat j) 0 FT.slc)
 (.need (0 ≤ j ∧ j < (↑(D.len b) : Int) ∧ D.sz b = 1)
 (.need (D.HasCell b (Int.toNat j) 0 FT.slc)
 (.need
 (D.Is Sec (D.cell a (Int.toNat j) 0) ∧
 D.Is Sec (D.cell b (Int.toNat j) 0) ∧
 D.len (D.cell a (Int.toNat j) 0) ≤ 1048576 ∧ D.len (D.cell b (Int.toNat j) 0) ≤ 1048576)
 (.br (!decide (D.to Sec (D.cell a (Int.toNat j) 0) = D.to Sec (D.cell b (Int.toNat j) 0)))
 (.ret (.lb false))
 (.leaf
 (Conf.mk
 (SFrm.mk 78 none none
 [Item.inLoop (cA 78 [1,1,0,1,0,0]),Item.inBlock 0,
 Item.code (cA 78 [1,1,1])]
 (mkJ 1
 [(1,.dat b),(2,SV.fn 79 [] []),(15,.dat a),(16,.int .i64 (↑(D.len a) : Int)),
 (17,.int .i64 (IntKind.wrap .i64 (j + 1)))]
 0 32))
 [SFrm.mk 29 (some (oA 29 [1,0],[3])) (some 7) [Item.code (cA 29 [1,1])]
 (mkU [(0,.dat a),(1,.dat b),(4,.lb false),(5,.dat a),(6,.dat b)] 0 8)]
 []))))))))
 (.ret (.lb true)) := by kernel_rfl
end
end Sv
end
noncomputable section
open Go
namespace Sx

instance : Plain Cy where
 cells d i c := [.int .i64 c.base,.int .i64 c.number,.int .i64 c.time,(d.cell i 3).plain c.pos,(d.cell i 4).plain c.wr]
 right d i r h ho := by
  obtain ⟨a,b,t,p,w,rfl,hp,hw⟩ := ho
  obtain ⟨p1,p2,p3,rfl⟩ := hp.slc
  obtain ⟨w1,w2,w3,rfl⟩ := hw.slc
  have e1 : d.cell i 3 = .slc p1 p2 p3 := by simp [D.cell,D.cellAt,h]
  have e2 : d.cell i 4 = .slc w1 w2 w3 := by simp [D.cell,D.cellAt,h]
  simp only [Codec.dec,e1,e2,plain_self hp,plain_self hw]
instance : Plain Msg where
 cells d i m := [.int .i64 m.kind,.int .i64 m.frm,.int .i64 m.to,.int .i64 m.number,.int .i64 m.value,.int .i64 m.epoch,(d.cell i 6).plain m.values,(d.cell i 7).plain m.body]
 right d i r h ho := by
  obtain ⟨a,b,c,d',e,f,p,w,rfl,hp,hw⟩ := ho
  obtain ⟨p1,p2,p3,rfl⟩ := hp.slc
  obtain ⟨w1,w2,w3,rfl⟩ := hw.slc
  have e1 : d.cell i 6 = .slc p1 p2 p3 := by simp [D.cell,D.cellAt,h]
  have e2 : d.cell i 7 = .slc w1 w2 w3 := by simp [D.cell,D.cellAt,h]
  simp only [Codec.dec,e1,e2,plain_self hp,plain_self hw]
/-! The example. -/
def xw (n : Int) (s : Int) : Wt := ⟨0,s,[⟨n,0,0,0,0,0,0,0⟩]⟩



def applyCy (im : List Vol) (c : Cy) : List Vol × Int :=
 if sizesErr (volSizes im) ≠ 0 then ([],sizesErr (volSizes im)) else if cyErr c (volSizes im) ≠ 0 then ([],cyErr c (volSizes im)) else ((applyI im c.wr).1,(applyI im c.wr).2.2)
def spCyA (x : D × CyD) : SpecR := .data [x.1.Is Vol ∧ x.1.len ≤ 1048576 ∧ x.2.Ok] fun ds=>.tup [.dat ((ds 0).like (applyCy (x.1.to Vol) x.2.cy).1),.int .i64 (applyCy (x.1.to Vol) x.2.cy).2]
end Sx
end
noncomputable section
open Go Go.Proofs Sx
namespace Sv
theorem lawSeq : Law Try.prog 79 ((rdD.two rdD).sp spSameV) := by
 refine law_in _ (by kernel_rfl) fun H w ⟨a,b⟩ hok hp=>?_
 obtain ⟨ha,hb,hlen,_⟩ := hp _ (List.mem_singleton.2 rfl)
 simp only at ha hb hlen
 have hla := D.Is.length (α := Sec) a
 have hlb := D.Is.length (α := Sec) b
 apply exec_sound (noCtr _) 400
 rw [show (rdD.two rdD).canon (a,b) = [.dat a,.dat b] from rfl,seq_in]
 refine ⟨fun hc=>ret_lb ?_,fun hc=>?_⟩
 ·exact same_not fun he=>by simp [hla,hlb,he] at hc
 have hc' : (a.to Sec).length = (b.to Sec).length := by simp [hla,hlb] at hc; omega
 refine runs_loop (fun j : Nat=>seqL a b j) (fun j=>j ≤ (a.to Sec).length ∧ (a.to Sec).take j = (b.to Sec).take j) (fun j=>(a.to Sec).length - j) (fun _=>rfl) ?_ 0 ⟨Nat.zero_le _,rfl⟩
 intro j ⟨hj,hpre⟩ ih
 apply exec_sound (noCtr _) 400
 rw [seq_go]
 refine ⟨fun hc hs=>?_,fun hc=>ret_lb ?_⟩
 ·have hc : j < (a.to Sec).length := by have := of_decide_eq_true hc; omega
  obtain ⟨c1,c2⟩ := sec_cell ha hc
  obtain ⟨e1,e2⟩ := sec_cell hb (hc' ▸ hc)
  refine ⟨⟨by omega,by omega,ha.size hc⟩,c1,⟨by omega,by omega,hb.size (hc' ▸ hc)⟩,e1,fun h=>ret_lb ?_,fun h=>?_⟩
  ·refine same_not fun he=>?_
   have he2 : (a.to Sec)[j] = (b.to Sec)[j]'(hc' ▸ hc) := by simp only [he]
   rw [c2,e2] at he2
   simp only [Sec.mk.injEq] at he2
   simp [he2] at h
  ·have hx : (a.to Sec)[j] = (b.to Sec)[j]'(hc' ▸ hc) := by
    rw [c2,e2]
    simp only [Int.toNat_natCast,Bool.and_true,Bool.not_eq_false',Bool.and_eq_true,decide_eq_true_eq] at h
    rw [h.1,h.2.1,h.2.2.1,h.2.2.2.1,h.2.2.2.2.1,h.2.2.2.2.2.1,h.2.2.2.2.2.2.1,h.2.2.2.2.2.2.2]
   have := ih (j + 1) ⟨hc,take_succ_eq hc (hc' ▸ hc) hpre hx⟩ (by omega)
   rw [← wrap_succ hc (by omega)] at this
   exact this
 ·have := of_decide_eq_false hc
  exact (decide_eq_true (list_eq_of hc' (by omega) hpre)).symm
theorem ctSqOk : Ctrs.Ok Try.prog ctSq := by
 intro x hx
 rw [List.mem_singleton.1 hx]; exact ctrOf_ok lawSeq
theorem lawImS : Law Try.prog 29 ((rdD.two rdD).sp spSameI) := by
 refine law_in _ (by kernel_rfl) fun H w ⟨a,b⟩ hok hp=>?_
 obtain ⟨ha,hb,hl1,hl2,hv1,hv2⟩ := hp _ (List.mem_singleton.2 rfl)
 simp only at ha hb hl1 hl2 hv1 hv2
 have hla := D.Is.length (α := Vol) a
 have hlb := D.Is.length (α := Vol) b
 apply exec_sound (noCtr _) 400
 rw [show (rdD.two rdD).canon (a,b) = [.dat a,.dat b] from rfl,ims_in]
 refine ⟨fun hc=>ret_lb ?_,fun hc=>?_⟩
 ·exact same_not fun he=>by simp [hla,hlb,he] at hc
 have hc' : (a.to Vol).length = (b.to Vol).length := by simp [hla,hlb] at hc; omega
 refine runs_loop (fun j : Nat=>imsL a b j) (fun j=>j ≤ (a.to Vol).length ∧ (a.to Vol).take j = (b.to Vol).take j) (fun j=>(a.to Vol).length - j) (fun _=>rfl) ?_ 0 ⟨Nat.zero_le _,rfl⟩
 intro j ⟨hj,hpre⟩ ih
 apply exec_sound ctSqOk 400
 rw [ims_go]
 refine ⟨fun hc=>?_,fun hc=>ret_lb ?_⟩
 ·have hc : j < (a.to Vol).length := by have := of_decide_eq_true hc; omega
  have hcb : j < (b.to Vol).length := hc' ▸ hc
  obtain ⟨c1,r2,r3⟩ := vol_cell ha hc
  obtain ⟨c2,s2,s3⟩ := vol_cell hb hcb
  have la := hv1 _ (List.getElem_mem hc)
  have lb := hv2 _ (List.getElem_mem hcb)
  rw [r3] at la
  rw [s3] at lb
  have la2 := D.Is.length (α := Sec) (a.cell j 0)
  have lb2 := D.Is.length (α := Sec) (b.cell j 0)
  simp only [Int.toNat_natCast]
  refine ⟨⟨by omega,by omega,ha.size hc⟩,c1,⟨by omega,by omega,hb.size hcb⟩,c2,⟨r2,s2,by rw [la2]; exact la,by rw [lb2]; exact lb⟩,fun h=>ret_lb ?_,fun h=>?_⟩
  ·refine same_not fun he=>?_
   have he2 : (a.to Vol)[j] = (b.to Vol)[j] := by simp only [he]
   rw [r3,s3] at he2
   simp only [Vol.mk.injEq] at he2
   simp [he2] at h
  ·have hx : (a.to Vol)[j] = (b.to Vol)[j] := by
    rw [r3,s3]
    simp at h
    rw [h]
   have := ih (j + 1) ⟨hc,take_succ_eq hc hcb hpre hx⟩ (by omega)
   rw [← wrap_succ hc (by omega)] at this
   exact this
 ·have := of_decide_eq_false hc
  exact (decide_eq_true (list_eq_of hc' (by omega) hpre)).symm
theorem ctCAOk : Ctrs.Ok Try.prog ctCA := by
 intro x hx
 simp only [ctCA,List.mem_cons,List.not_mem_nil,or_false] at hx
 rcases hx with rfl | rfl | rfl
 ·exact ctrOf_ok lawChkI
 ·exact ctrOf_ok lawCyCk
 ·exact ctrOf_ok lawApply
theorem ret_cya {P : Program} {w : World} {H : HV} {X : SV} {n : Int} {l : List Vol} {r : List Vol × Int} (hx : Stands Vol X l) (hr : r = (l,n)) : (Tree.ret (.tup [X,.int .i64 n])).holds P ⟨w,H⟩ (RetD w H fun ds=>.tup [.dat ((ds 0).like r.1),.int .i64 r.2]) := by
 subst hr
 obtain ⟨d,h⟩ := hx.se
 exact ret_se (fun _=>d) (se_tup (.cons h (.cons (se_int rfl) .nil)))
theorem lawCya : Law Try.prog 25 ((rdD.two rdCy).sp spCyA) := by
 refine law_in _ (by kernel_rfl) fun H w ⟨im,cb,cn,ct,cp,cw⟩ hok hp=>?_
 obtain ⟨hi,hl,hc⟩ := hp _ (List.mem_singleton.2 rfl)
 simp only at hi hl hc
 have il := D.Is.length (α := Vol) im
 apply exec_sound ctCAOk 400
 rw [show (rdD.two rdCy).canon (im,⟨cb,cn,ct,cp,cw⟩) = [.dat im,.agg [.int .i64 cb,.int .i64 cn,.int .i64 ct,.dat cp,.dat cw]] from rfl,cya_in]
 show Tree.holds _ _ (RetD w H fun ds=>.tup [.dat ((ds 0).like (applyCy (im.to Vol) (CyD.cy ⟨cb,cn,ct,cp,cw⟩)).1),.int .i64 (applyCy (im.to Vol) (CyD.cy ⟨cb,cn,ct,cp,cw⟩)).2]) _
 refine ⟨⟨hi,hl⟩,fun h1=>ret_cya stands_nils ?_,fun h1=>?_⟩
 ·have h1 : sizesErr (volSizes (im.to Vol)) ≠ 0 := by simpa using h1
  unfold applyCy; rw [if_pos h1]
 have h1 : ¬sizesErr (volSizes (im.to Vol)) ≠ 0 := by simpa using h1
 unfold applyCy; rw [if_neg h1]
 refine vecIn_to 9 3 1 none 7 (cyaL im cp cw (.slc none 1 []) cb cn ct 0) (by kernel_rfl) ?_
 refine runs_loop (fun p : D × Nat=>cyaL im cp cw p.1 cb cn ct p.2) (fun p=>p.2 ≤ (im.to Vol).length ∧ p.1.Is Int ∧ p.1.sz = 1 ∧ p.1.to Int = (volSizes (im.to Vol)).take p.2) (fun p=>(im.to Vol).length - p.2) (fun _=>rfl) ?_ (.slc none 1 [],0) ⟨Nat.zero_le _,is_nil _ _,rfl,rfl⟩
 intro ⟨q,j⟩ ⟨hj,hq,hz,hto⟩ ih
 simp only at hj hq hz hto ih
 have ql := D.Is.length (α := Int) q
 have vl : (volSizes (im.to Vol)).length = (im.to Vol).length := by simp [volSizes]
 rw [hto,List.length_take] at ql
 apply exec_sound ctCAOk 400
 rw [cya_go]
 refine ⟨fun hcj=>?_,fun hcj=>?_⟩
 ·have hcj : j < (im.to Vol).length := by have := of_decide_eq_true hcj; omega
  obtain ⟨c1,r2,r3⟩ := vol_cell hi hcj
  have sl := D.Is.length (α := Sec) (im.cell j 0)
  have htk : (volSizes (im.to Vol)).take (j + 1) = (volSizes (im.to Vol)).take j ++ [((im.cell j 0).len : Int)] := by
   rw [List.take_succ_eq_append_getElem (by omega)]
   congr 2
   simp only [volSizes,List.getElem_map,r3]
   omega
  refine ⟨⟨by omega,by omega,hi.size hcj⟩,c1,fun hs=>⟨⟨hz,.inr rfl,by simp only [len_slc,List.length_cons,List.length_nil]; omega,by simp only [len_slc,List.length_cons,List.length_nil]; omega⟩,fun hs1=>?_⟩⟩
  obtain ⟨i1,i2⟩ := is_of (h := D.hd (hs1 0 0)) (s := 1) rfl (rows_app (rows_of hq) (rows_one (ok_int ((im.cell j 0).len : Int)) rfl))
  have := ih (_,j + 1) ⟨hcj,i1,rfl,i2.trans (by rw [hto,htk]; rfl)⟩ (by simp only; omega)
  simp only at this
  rw [← wrap_succ hcj (by omega)] at this
  exact this
 ·have : j = (im.to Vol).length := by have := of_decide_eq_false hcj; omega
  subst this
  rw [← vl,List.take_length] at hto
  obtain ⟨k1,k2,k3,k4,k5⟩ := id hc
  simp only at k1 k2 k3 k4 k5
  rw [hto]
  refine ⟨⟨hc,hq,by show q.len ≤ 1048576; omega⟩,fun h2=>ret_cya stands_nils ?_,fun h2=>⟨⟨hi,hl,k2,k4,k5⟩,fun hs=>ret_cya stands_like ?_⟩⟩
  ·have h2 : cyErr (CyD.cy ⟨cb,cn,ct,cp,cw⟩) (volSizes (im.to Vol)) ≠ 0 := by simpa using h2
   rw [if_pos h2]
  ·have h2 : ¬cyErr (CyD.cy ⟨cb,cn,ct,cp,cw⟩) (volSizes (im.to Vol)) ≠ 0 := by simpa using h2
   rw [if_neg h2]; rfl
def ctBg : Ctrs := [(104,oCtr (spClone Int 3)),(90,ctrOf (rdCy.one.sp spCpC))]
def ctNx : Ctrs := [(17,ctrOf (rdRl.one.sp spCkRl)),(90,ctrOf (rdCy.one.sp spCpC))]
section
variable (d o k : D) (n a1 a2 a3 a4 b1 b2 b3 b4 e s st ap : Int)
theorem nxt_in : goS Try.prog ctNx (fun _=>false) [(63,8)] 400 (entry Try.prog 30 [.agg [.int .i64 a1,.int .i64 a2,.int .i64 a3,.int .i64 a4,.int .i64 b1,.int .i64 b2,.int .i64 b3,.int .i64 b4,.int .i64 e,.int .i64 s,.dat o,.int .i64 st,.int .i64 ap,.dat k]]) =
 Tree.need (RlD.Ok (RlD.mk (Tgt.mk a1 a2 a3 a4) (Tgt.mk b1 b2 b3 b4) (SrcD.mk e s o st ap) k))
 (.br (ckRl (RlD.rl (RlD.mk (Tgt.mk a1 a2 a3 a4) (Tgt.mk b1 b2 b3 b4) (SrcD.mk e s o st ap) k)) != 0)
 (.ret
 (SV.tup
 [.agg [.int .i64 0,.int .i64 0,.int .i64 0,.nils,.nils],.lb false]))
 (.leaf
 (Conf.mk
 (SFrm.mk 63 none none
 [Item.code (cA 63 [1,1,0,0]),Item.code (cA 63 [1,1,0,1]),
 Item.code (cA 63 [1,1,1])]
 (mkJ 1 [(0,.ptr 0 0),(1,.int .i64 st),(5,.nils)] 0 29))
 [SFrm.mk 30 (some (oA 30 [1,1,0],[7])) (some 15) [Item.code (cA 30 [1,1,1])]
 (mkJ 0 [(2,.ptr 1 0)] 0 23)]
 [(0,
 OBlk.cells 115
 [.int .i64 a1,.int .i64 a2,.int .i64 a3,.int .i64 a4,
 .int .i64 b1,.int .i64 b2,.int .i64 b3,.int .i64 b4,
 .int .i64 e,.int .i64 s,.dat o,.int .i64 st,.int .i64 ap,
 .dat k]),
 (1,OBlk.cells 65 [.int .i64 0,.int .i64 0,.int .i64 0,.nils,.nils])]))) := by kernel_rfl
end
def bhTop (n : Int) : SFrm := SFrm.mk 63 none none [Item.code (cA 63 [1,1,0,0]),Item.code (cA 63 [1,1,0,1]),Item.code (cA 63 [1,1,1])] (mkJ 1 [(0,.ptr 0 0),(1,.int .i64 n),(5,.nils)] 0 29)
def bhLop (n : Int) (K : SV) (l j : Int) : SFrm := SFrm.mk 63 none none [Item.inLoop (cA 63 [1,1,0,1,0,0]),Item.inBlock 0,Item.code (cA 63 [1,1,1])] (mkJ 1 [(1,.int .i64 n),(5,.vec 0),(12,K),(13,.int .i64 l),(14,.int .i64 j)] 0 29)
def bgC (x : RlD) : SFrm := SFrm.mk 62 none none [Item.code (cA 62 [0]),Item.code (cA 62 [1])] (mkJ 1 [(0,.agg (rlCs x))] 0 23)
def bgA (x : RlD) : Conf := Conf.mk (bhTop (Int.neg 9223372036854775808)) [SFrm.mk 62 (some (oA 62 [1,1,0],[3,4,5,6])) (some 9) [Item.code (cA 62 [1,1,1])] (mkJ 0 [(1,.ptr 1 0),(3,.ptr 0 0),(7,.ptr 0 0)] 0 23)]
 [(0,OBlk.cells 115 (rlCs x)),(1,OBlk.cells 37 (rlCs x))]
def bgL (x : RlD) (n : Int) (q : D) (j : Int) : Conf := Conf.mk (bhLop n (.dat x.k) (x.k.len : Int) j) [SFrm.mk 62 (some (oA 62 [1,1,0],[3,4,5,6])) (some 9) [Item.code (cA 62 [1,1,1])] (mkJ 0 [(1,.ptr 1 0),(3,.ptr 2 0),(7,.ptr 2 0)] 0 23)]
 [(0,.arr 65 q),(1,OBlk.cells 37 (rlCs x)),(2,OBlk.cells 115 (rlCs x))]
section
variable (d o k q : D) (n j a1 a2 a3 a4 b1 b2 b3 b4 e s st ap : Int)
theorem bgC_in : goS Try.prog ctBg (fun _=>false) [(63,8)] 400 (Conf.mk (bgC ⟨⟨a1,a2,a3,a4⟩,⟨b1,b2,b3,b4⟩,⟨e,s,o,st,ap⟩,k⟩) [] []) =
 Tree.leaf
 (Conf.mk
 (SFrm.mk 63 none none
 [Item.code (cA 63 [1,1,0,0]),Item.code (cA 63 [1,1,0,1]),
 Item.code (cA 63 [1,1,1])]
 (mkJ 1 [(0,.ptr 0 0),(1,.int .i64 (Int.neg 9223372036854775808)),(5,.nils)] 0 29))
 [SFrm.mk 62 (some (oA 62 [1,1,0],[3,4,5,6])) (some 9) [Item.code (cA 62 [1,1,1])]
 (mkJ 0 [(1,.ptr 1 0),(3,.ptr 0 0),(7,.ptr 0 0)] 0 23)]
 [(0,
 OBlk.cells 115
 [.int .i64 a1,.int .i64 a2,.int .i64 a3,.int .i64 a4,
 .int .i64 b1,.int .i64 b2,.int .i64 b3,.int .i64 b4,
 .int .i64 e,.int .i64 s,.dat o,.int .i64 st,.int .i64 ap,
 .dat k]),
 (1,
 OBlk.cells 37
 [.int .i64 a1,.int .i64 a2,.int .i64 a3,.int .i64 a4,
 .int .i64 b1,.int .i64 b2,.int .i64 b3,.int .i64 b4,
 .int .i64 e,.int .i64 s,.dat o,.int .i64 st,.int .i64 ap,
 .dat k])]) := by kernel_rfl
theorem bgA_go : exec Try.prog ctBg 400 (bgA ⟨⟨a1,a2,a3,a4⟩,⟨b1,b2,b3,b4⟩,⟨e,s,o,st,ap⟩,k⟩) =
 Tree.leaf
 (Conf.mk
 (SFrm.mk 63 none none
 [Item.inLoop (cA 63 [1,1,0,1,0,0]),Item.inBlock 0,Item.code (cA 63 [1,1,1])]
 (mkJ 1
 [(1,.int .i64 (Int.neg 9223372036854775808)),(5,.nils),(12,.dat k),
 (13,.int .i64 (↑(D.len k) : Int)),(14,.int .i64 0)]
 0 29))
 [SFrm.mk 62 (some (oA 62 [1,1,0],[3,4,5,6])) (some 9) [Item.code (cA 62 [1,1,1])]
 (mkJ 0 [(1,.ptr 0 0),(3,.ptr 1 0),(7,.ptr 1 0)] 0 23)]
 [(0,
 OBlk.cells 37
 [.int .i64 a1,.int .i64 a2,.int .i64 a3,.int .i64 a4,
 .int .i64 b1,.int .i64 b2,.int .i64 b3,.int .i64 b4,
 .int .i64 e,.int .i64 s,.dat o,.int .i64 st,.int .i64 ap,
 .dat k]),
 (1,
 OBlk.cells 115
 [.int .i64 a1,.int .i64 a2,.int .i64 a3,.int .i64 a4,
 .int .i64 b1,.int .i64 b2,.int .i64 b3,.int .i64 b4,
 .int .i64 e,.int .i64 s,.dat o,.int .i64 st,.int .i64 ap,
 .dat k])]) := by kernel_rfl
theorem bgL_go : 
 let z1 : List SV := [.int .i64 a1,.int .i64 a2,.int .i64 a3,.int .i64 a4,.int .i64 b1,.int .i64 b2,.int .i64 b3,.int .i64 b4,.int .i64 e,.int .i64 s,.dat o,.int .i64 st,.int .i64 ap,.dat k]
 let z2 := (SFrm.mk 63 none none [Item.inLoop (cA 63 [1,1,0,1,0,0]),Item.inBlock 0,Item.code (cA 63 [1,1,1])] (mkJ 1 [(1,.int .i64 n),(5,.vec 0),(12,.dat k),(13,.int .i64 (↑(D.len k) : Int)),(14,.int .i64 (IntKind.wrap .i64 (j + 1)))] 0 29))
 let z3 := (D.getInt k (Int.toNat j) 2)
 let z4 := (D.getInt k (Int.toNat j) 1)
 let z5 := (D.getInt k (Int.toNat j) 0)
 let z6 := (D.to Int (D.cell k (Int.toNat j) 3))
 let z7 := (D.to Wt (D.cell k (Int.toNat j) 4))
 execR Try.prog ctBg 400 (unroll (bgL ⟨⟨a1,a2,a3,a4⟩,⟨b1,b2,b3,b4⟩,⟨e,s,o,st,ap⟩,k⟩ n q j)) =
 Tree.br (decide (j < (↑(D.len k) : Int))) (.need (0 ≤ j ∧ j < (↑(D.len k) : Int) ∧ D.sz k = 5) (.need (D.HasCells k (Int.toNat j) 0 [FT.int .i64,FT.int .i64,FT.int .i64,FT.slc,FT.slc]) (.br (decide
 (D.getInt k (Int.toNat j) 1 > n)) (.need (CyD.Ok (CyD.mk z5 z4 z3 (D.cell k (Int.toNat j) 3) (D.cell k (Int.toNat j) 4))) (.all fun hs=>.all fun hs_1=>.need (D.sz q = 5 ∧ D.Fits (D.slc (D.hd (hs_1 0 0)) 5 [[D.int .i64 z5,D.int .i64 z4,D.int .i64 z3,D.like
 (hs 0 0) z6,D.like (hs 0 1) z7]]) 5 ∧ (D.len q + D.len (D.slc (D.hd (hs_1 0 0)) 5 [[D.int .i64 z5,D.int .i64 z4,D.int .i64 z3,D.like (hs 0 0) z6,D.like (hs 0 1) z7]])) * 72 ≤ 140737488355328 ∧ D.len q + D.len
 (D.slc (D.hd (hs_1 0 0)) 5 [[D.int .i64 z5,D.int .i64 z4,D.int .i64 z3,D.like (hs 0 0) z6,D.like (hs 0 1) z7]]) ≤ 9223372036854775807) (.all fun hs_2=>.leaf (Conf.mk z2 [SFrm.mk 62 (some (oA 62 [1,1,0],[3,4,5,6]))
 (some 9) [Item.code (cA 62 [1,1,1])] (mkJ 0 [(1,.ptr 1 0),(3,.ptr 2 0),(7,.ptr 2 0)] 0 23)] [(0,OBlk.arr 65 (D.slc (D.hd (hs_2 0 0)) 5 (List.append (D.rows q) (D.rows (D.slc (D.hd (hs_1 0 0)) 5 [[D.int .i64 z5,D.int .i64 z4,D.int .i64 z3,D.like
 (hs 0 0) z6,D.like (hs 0 1) z7]]))))),(1,OBlk.cells 37 z1),(2,OBlk.cells 115 z1)])))) (.leaf (Conf.mk z2 [SFrm.mk 62 (some (oA 62 [1,1,0],[3,4,5,6])) (some 9) [Item.code (cA 62 [1,1,1])] (mkJ 0 [(1,.ptr 1 0),
 (3,.ptr 2 0),(7,.ptr 2 0)] 0 23)] [(0,OBlk.arr 65 q),(1,OBlk.cells 37 z1),(2,OBlk.cells 115 z1)]))))) (.need (D.Is Int o ∧ D.len o ≤ 1048576) (.all fun hs=>.leaf (Conf.mk (SFrm.mk 62 none none [Item.code
 (cA 62 [1,1,1,1,1])] (mkJ 0 [(1,.ptr 1 0),(2,.ptr 2 0),(3,.ptr 2 0),(7,.ptr 2 0),(9,.vec 0),(10,.ptr 2 0),(11,.ptr 2 0),(12,.ptr 2 13),(13,.ptr 2 0),(14,.ptr 1 8),(15,.ptr 1 10),
 (16,.dat o),(17,.vec 1017),(18,.ptr 2 0),(19,.ptr 2 0),(20,.ptr 2 8),(21,.ptr 2 10),(22,.ptr 2 0)] 0 23)) [] [(1017,OBlk.arr 3 (D.slc (D.hd (hs 0 0)) 1 (D.rows o))),(0,OBlk.arr 65 q),(1,OBlk.cells 37 z1),
 (2,OBlk.cells 115 [.int .i64 a1,.int .i64 a2,.int .i64 a3,.int .i64 a4,.int .i64 b1,.int .i64 b2,.int .i64 b3,.int .i64 b4,.int .i64 e,.int .i64 s,.vec 1017,.int .i64 st,.int .i64 ap,.vec 0])]))) := by
 intros; kernel_rfl
end
theorem ctBgOk : Ctrs.Ok Try.prog ctBg := by
 intro x hx
 simp only [ctBg,List.mem_cons,List.not_mem_nil,or_false] at hx
 rcases hx with rfl | rfl
 ·exact oCtr_ok lawCl1
 ·exact ctrOf_ok lawCpC
def bgM (x : RlD) (o q : D) : Mem := [(1017,.arr 3 o),(0,.arr 65 q),(2,OBlk.cells 115 [.int .i64 x.near.epoch,.int .i64 x.near.site,.int .i64 x.near.stored,.int .i64 x.near.applied,.int .i64 x.far.epoch,.int .i64 x.far.site,.int .i64 x.far.stored,.int .i64 x.far.applied,
 .int .i64 x.src.e,.int .i64 x.src.s,.vec 1017,.int .i64 x.src.st,.int .i64 x.src.ap,.vec 0])]
def bgPhi (x : RlD) (v : SV) (m : Mem) : Prop := v = .ptr 2 0 ∧ ∃ o q : D,m = bgM x o q ∧ (o.Is Int ∧ o.sz = 1 ∧ o.to Int = x.src.d.to Int) ∧ q.Is Cy ∧ q.sz = 5 ∧ q.to Cy = x.k.to Cy
theorem bgRuns {H : HV} {w : World} {x : RlD} (hx : x.Ok) (hmin : ∀ c,c ∈ x.k.to Cy → c.number > -9223372036854775808) : Runs Try.prog ⟨w,H⟩ ⟨bgC x,[],[]⟩ (RetM w H (bgPhi x)) := by
 obtain ⟨⟨a1,a2,a3,a4⟩,⟨b1,b2,b3,b4⟩,⟨e,s,o,st,ap⟩,k⟩ := x
 obtain ⟨h1,h2,h3,h4,h5⟩ := hx
 simp only at h1 h2 h3 h4 h5 hmin
 apply goS_sound ctBgOk (fun _=>false) [(63,8)] 400
 rw [bgC_in]
 show Runs _ _ (bgA ⟨⟨a1,a2,a3,a4⟩,⟨b1,b2,b3,b4⟩,⟨e,s,o,st,ap⟩,k⟩) _
 apply exec_sound ctBgOk 400
 rw [bgA_go]
 refine vecIn_to 9 65 5 none 5 (bgL ⟨⟨a1,a2,a3,a4⟩,⟨b1,b2,b3,b4⟩,⟨e,s,o,st,ap⟩,k⟩ (Int.neg 9223372036854775808) (.slc none 5 []) 0) (by kernel_rfl) ?_
 apply beh_loop false h2 h4 h5 (Int.neg 9223372036854775808) (fun q j=>bgL ⟨⟨a1,a2,a3,a4⟩,⟨b1,b2,b3,b4⟩,⟨e,s,o,st,ap⟩,k⟩ (Int.neg 9223372036854775808) q j)
 ·exact fun _ _=>rfl
 ·intro q j hh
  apply execR_sound ctBgOk 400
  rw [bgL_go]
  exact hh
 ·intro q hq hz hto
  refine ⟨⟨h1,h3⟩,fun hs=>?_⟩
  obtain ⟨p1,p2⟩ := slc_same h1 (D.hd (hs 0 0)) (s := 1) rfl
  refine retM (f := Try.f62) (l := [.ptr 2 0]) (bgM ⟨⟨a1,a2,a3,a4⟩,⟨b1,b2,b3,b4⟩,⟨e,s,o,st,ap⟩,k⟩ (D.slc (D.hd (hs 0 0)) 1 (D.rows o)) q) (by kernel_rfl) (by kernel_rfl) ?_ rfl (by kernel_rfl) ⟨rfl,_,_,rfl,⟨p1,rfl,p2⟩,hq,hz,?_⟩
  ·exact .cons₂ _ (.cons₂ _ (.cons _ (.cons₂ _ .slnil)))
  ·rw [hto]; exact behindL_all hmin
theorem bgC_pure {x : RlD} : ∀ k,k ∉ SV.keysL (bgC x).tmps := fun k hk=>by
 have h : SV.keysL (bgC x).tmps = [] := by kernel_rfl
 rw [h] at hk; cases hk
end Sv
end
noncomputable section
namespace Sx
open Go RowKit
def fCtr (g : FuncId) (spec : D → D → SpecR) : Ctr := fun args _ m=>match args with
 | [.dat d,.fn f [] [.ptr k 0]]=>match Nat.beq f g with
  | true=>match m.get k with
   | some (.cells _ [.dat a])=>match spec d a with
    | .scalar ps v=>match v.flat with
     | true=>.val ps v m
     | false=>.bad
    | _=>.bad
   | _=>.bad
  | false=>.bad
 | _=>.bad
def FLaw (P : Program) (f g : FuncId) (spec : D → D → SpecR) : Prop :=
 Bodied P f = true ∧ ∀ (H : HV) (w : World) (b : Nat) (d a : D),(rowD b [a]).Ok H → d.Ok H → d.IsSlc → a.Ok H → a.IsSlc → match spec d a with
  | .scalar ps v=>(∀ p,p ∈ ps → p) → Runs P ⟨w,H⟩ (entry P f [.dat d,.fn g [] [.elt (rowD b [a]) 0 0]]) (RetS w H v)
  | _=>True
theorem fCtr_ok {P : Program} {f g : FuncId} {spec : D → D → SpecR} (h : FLaw P f g spec) : CtrOk P f (fCtr g spec) := by
 refine ⟨bodied_spec h.1,fun C E H w args key m gd hargs hk hk2=>?_,?_⟩
 ·unfold CallRight
  have hctr : (∃ d k t a ps v,args = [.dat d,.fn g [] [.ptr k 0]] ∧ m.get k = some (.cells t [.dat a]) ∧ spec d a = .scalar ps v ∧ v.flat = true ∧ fCtr g spec args key m = .val ps v m) ∨ fCtr g spec args key m = .bad := by
   unfold fCtr
   split
   ·rename_i d f' k
    split
    ·rename_i hf
     have hf : f' = g := Nat.eq_of_beq_eq_true hf
     subst hf
     split
     ·rename_i t a hg
      split
      ·rename_i ps v hs
       split
       ·rename_i hv
        exact .inl ⟨d,k,t,a,ps,v,rfl,hg,hs,hv,rfl⟩
       ·exact .inr rfl
      ·exact .inr rfl
     ·exact .inr rfl
    ·exact .inr rfl
   ·exact .inr rfl
  rcases hctr with ⟨d,k,t,a,ps,v,rfl,hget,hspec,hflat,he⟩ | he
  ·rw [he]
   simp only
   intro hp
   obtain ⟨c1,c2,c3,c4⟩ := gd.own k _ (Mem.get_mem hget)
   let Hp : HV := fun b o=>if b = E.b k then (SV.denL E [.dat a])[o]? else H b o
   have hHp : HLe H Hp := fun b o u hu=>by
    have : b ≠ E.b k := by rintro rfl; rw [c3] at hu; cases hu
    simp only [Hp,this,if_false,hu]
   have ha : a.Ok Hp ∧ a.IsSlc := ⟨c4.1.1.mono hHp,c4.1.2⟩
   have hd : d.Ok Hp ∧ d.IsSlc := ⟨hargs.1.1.mono hHp,hargs.1.2⟩
   have hrow : (rowD (E.b k) [a]).Ok Hp := by
    refine .slc _ 1 _ _ (fun _=>rfl) (by simp) (fun r hr=>by rw [List.mem_singleton.1 hr]) (fun i j r x hi hj=>?_) (fun r hr x hx=>by rw [List.mem_singleton.1 hr] at hx; rw [List.mem_singleton.1 hx]; exact ha.1)
    have hi0 : i = 0 := by
     cases i with
     | zero=>rfl
     | succ i=>simp at hi
    subst hi0
    simp only [List.getElem?_cons_zero,Option.some.injEq] at hi
    subst hi
    have hj0 : j = 0 := by
     cases j with
     | zero=>rfl
     | succ j=>simp at hj
    subst hj0
    simp only [List.getElem?_cons_zero,Option.some.injEq] at hj
    subst hj
    simp [Hp,SV.denL,SV.den]
   have hmem : InMem Hp w := fun b o u hu=>by
    simp only [Hp] at hu
    split at hu
    ·rename_i hb
     subst hb
     simp only [World.cell?,c2]
     simpa using hu
    ·exact gd.cell b o u hu
   have hl := h.2 Hp w (E.b k) d a hrow hd.1 hd.2 ha.1 ha.2
   rw [hspec] at hl
   have hc := calls_of (args := [.dat d,.fn g [] [.elt (rowD (E.b k) [a]) 0 0]]) h.1 ⟨hd,⟨trivial,hrow,trivial⟩,trivial⟩ E hmem (hl hp)
   have eargs : SV.denL E [.dat d,.fn g [] [.elt (rowD (E.b k) [a]) 0 0]] = SV.denL E [.dat d,.fn g [] [.ptr k 0]] := by
    simp only [SV.denL,SV.den,rowD,D.addr,D.hd]
    simp
   rw [eargs] at hc
   refine Calls.mono hc fun e w' ⟨u,he',H',ha',hu⟩=>?_
   let H2 : HV := fun b o=>if b = E.b k then none else H' b o
   have hle2 : HLe H H2 := fun b o u hu=>by
    have hb : b ≠ E.b k := by rintro rfl; rw [c3] at hu; cases hu
    simp only [H2,hb,if_false]
    exact ha'.le b o u (hHp b o u hu)
   have hfr : ∀ b o u,H2 b o = some u → H b o = some u ∨ w.heap.size ≤ b := fun b o u hu=>by
    simp only [H2] at hu
    split at hu
    ·cases hu
    ·rename_i hb
     rcases ha'.fresh b o u hu with h3 | h3
     ·simp only [Hp,hb,if_false] at h3; exact .inl h3
     ·exact .inr h3
   have hcell : ∀ b o u,H2 b o = some u → w'.cell? ⟨b,o,none⟩ = some u := fun b o u hu=>by
    simp only [H2] at hu
    split at hu
    ·cases hu
    ·exact ha'.cell b o u hu
   refine ⟨E,H2,by rw [he',hu E],Agree.refl _ _,hle2,gd.call ha'.below hle2 hfr hcell,by cases v <;> simp [SV.flat] at hflat <;> simp [SV.Ok],ha'.below.size,fun b hb _=>ha'.below.block b hb,fun b x u hu=>?_,
    fun k o h=>.inr ⟨o,h⟩,fun k o h hl=>.inr ⟨k,o,h,hl,rfl⟩,ha'.below.os,ha'.below.tape,ha'.below.output⟩
   rcases hfr b x u hu with h1 | h1
   ·exact .inl h1
   ·exact .inr (.inl h1)
  ·rw [he]; trivial
 ·intro args key m hm
  unfold fCtr
  split
  ·rename_i heq
   split at heq
   ·split at heq
    ·split at heq
     ·split at heq
      ·split at heq
       ·cases heq; exact fun _=>rfl
       ·cases heq
      ·cases heq
     ·cases heq
    ·cases heq
   ·cases heq
  ·rename_i heq
   split at heq
   ·split at heq
    ·split at heq
     ·split at heq
      ·split at heq <;> cases heq
      ·cases heq
     ·cases heq
    ·cases heq
   ·cases heq
  ·trivial
end Sx
end
noncomputable section
open Go Go.Proofs Sx
namespace Sv
def ctCyc : Ctrs := [(73,ctrOf ((rdCy.two rdD).sp spCyCk))]
section
variable (d s : D) (b : Nat)
theorem cfc_in : exec Try.prog ctCyc 300 (entry Try.prog 99 [.dat d,.fn 100 [] [.elt (rowD b [s]) 0 0]]) =
 Tree.leaf
 (Conf.mk
 (SFrm.mk 128 none none
 [Item.inLoop (cA 128 [1,0,1,0,0]),Item.inBlock 0,Item.code (cA 128 [1,1])]
 (mkJ 1
 [(0,.dat d),(1,SV.fn 100 [] [SV.elt (rowD b [s]) 0 0]),(7,.int .i64 (↑(D.len d) : Int)),
 (8,.int .i64 0)]
 0 19))
 [SFrm.mk 99 (some (oA 99 [1,0],[3,4])) (some 7) [Item.code (cA 99 [1,1])]
 (mkU
 [(0,.dat d),(1,SV.fn 100 [] [SV.elt (rowD b [s]) 0 0]),(4,.lb false),(5,.dat d),
 (6,SV.fn 100 [] [SV.elt (rowD b [s]) 0 0])]
 0 9)]
 []) := by kernel_rfl
end
section
variable (d : D) (n : Int)
theorem lea1_in : goS Try.prog [] (fun _=>false) [(64,7)] 300 (entry Try.prog 64 [.dat d,.int .i64 n]) =
 Tree.leaf
 (Conf.mk
 (SFrm.mk 64 none none [Item.code (cA 64 [1,0]),Item.code (cA 64 [1,1])]
 (mkJ 0 [(0,.dat d),(3,.ptr 0 0)] 0 13))
 [] [(0,OBlk.cells 3 [.int .i64 n])]) := by kernel_rfl
end
def leA (d : D) (n : Int) : Conf := Conf.mk (SFrm.mk 64 none none [Item.code (cA 64 [1,0]),Item.code (cA 64 [1,1])] (mkJ 0 [(0,.dat d),(3,.ptr 0 0)] 0 13)) [] [(0,OBlk.cells 3 [.int .i64 n])]
section
variable (d : D) (n : Int)
theorem lea2_in : exec Try.prog [] 300 (leA d n) =
 Tree.leaf
 (Conf.mk
 (SFrm.mk 128 none none
 [Item.inLoop (cA 128 [1,0,1,0,0]),Item.inBlock 0,Item.code (cA 128 [1,1])]
 (mkJ 2
 [(0,.dat d),(1,SV.fn 105 [] [.ptr 0 0]),(7,.int .i64 (↑(D.len d) : Int)),
 (8,.int .i64 0)]
 0 19))
 [SFrm.mk 99 (some (oA 99 [1,0],[3,4])) (some 7) [Item.code (cA 99 [1,1])]
 (mkU
 [(0,.dat d),(1,SV.fn 105 [] [.ptr 0 0]),(4,.lb false),(5,.dat d),
 (6,SV.fn 105 [] [.ptr 0 0])]
 0 9),
 SFrm.mk 64 (some (oA 64 [1,0],[3])) (some 9) [Item.code (cA 64 [1,1])]
 (mkJ 0 [(0,.dat d),(3,.ptr 0 0),(7,.dat d),(8,SV.fn 105 [] [.ptr 0 0])] 0 13)]
 [(0,OBlk.cells 3 [.int .i64 n])]) := by kernel_rfl
end
def leX (d : D) (n j : Int) : Conf := Conf.mk (SFrm.mk 128 none none [Item.inLoop (cA 128 [1,0,1,0,0]),Item.inBlock 0,Item.code (cA 128 [1,1])] (mkJ 2 [(0,.dat d),(1,SV.fn 105 [] [.ptr 0 0]),(7,.int .i64 (d.len : Int)),(8,.int .i64 j)] 0 19)) [SFrm.mk 99 (some (oA 99 [1,0],[3,4])) (some 7) [Item.code (cA 99 [1,1])] (mkU [(0,.dat d),(1,SV.fn 105 [] [.ptr 0 0]),(4,.lb false),(5,.dat d),(6,SV.fn 105 [] [.ptr 0 0])] 0 9),SFrm.mk 64 (some (oA 64 [1,0],[3])) (some 9) [Item.code (cA 64 [1,1])] (mkJ 0 [(0,.dat d),(3,.ptr 0 0),(7,.dat d),(8,SV.fn 105 [] [.ptr 0 0])] 0 13)] [(0,OBlk.cells 3 [.int .i64 n])]
section
variable (d : D) (n j : Int)
theorem lex_go : exec Try.prog [] 300 (unroll (leX d n j)) =
 Tree.br (decide (j < (↑(D.len d) : Int)))
 (.need (0 ≤ j ∧ j < (↑(D.len d) : Int) ∧ D.sz d = 5)
 (.need
 (D.HasCells d (Int.toNat j) 0 [FT.int .i64,FT.int .i64,FT.int .i64,FT.slc,FT.slc])
 (.br (decide (D.getInt d (Int.toNat j) 0 > n))
 (.ret (SV.tup [.int .i64 (D.getInt d (Int.toNat j) 1),.bool !decide (j ≥ 0)]))
 (.leaf
 (Conf.mk
 (SFrm.mk 128 none none
 [Item.inLoop (cA 128 [1,0,1,0,0]),Item.inBlock 0,Item.code (cA 128 [1,1])]
 (mkJ 2
 [(0,.dat d),(1,SV.fn 105 [] [.ptr 0 0]),(7,.int .i64 (↑(D.len d) : Int)),
 (8,.int .i64 (IntKind.wrap .i64 (j + 1)))]
 0 19))
 [SFrm.mk 99 (some (oA 99 [1,0],[3,4])) (some 7) [Item.code (cA 99 [1,1])]
 (mkU
 [(0,.dat d),(1,SV.fn 105 [] [.ptr 0 0]),(4,.lb false),(5,.dat d),
 (6,SV.fn 105 [] [.ptr 0 0])]
 0 9),
 SFrm.mk 64 (some (oA 64 [1,0],[3])) (some 9) [Item.code (cA 64 [1,1])]
 (mkJ 0 [(0,.dat d),(3,.ptr 0 0),(7,.dat d),(8,SV.fn 105 [] [.ptr 0 0])] 0 13)]
 [(0,OBlk.cells 3 [.int .i64 (D.getInt d (Int.toNat j) 1)])])))))
 (.ret (SV.tup [.int .i64 n,.bool true])) := by kernel_rfl
end
end Sv
end
noncomputable section
open Go Go.Proofs Sx
namespace Sx
def spLead (x : D × Int) : SpecR := .data [x.1.Is Cy ∧ x.1.len ≤ 1048576] fun _=>.tup [.int .i64 (leadsI (x.1.to Cy) x.2).1,.bool (leadsI (x.1.to Cy) x.2).2]
theorem ret_lead {P : Program} {H : HV} {w : World} {a : Int} {b : Bool} {r : Int × Bool} (h : r = (a,b)) : (Tree.ret (.tup [.int .i64 a,.bool b])).holds P ⟨w,H⟩ (RetD w H fun _=>.tup [.int .i64 r.1,.bool r.2]) := by
 subst h
 exact ⟨rfl,fun E H' w' g hv=>⟨H',after_good g,fun _=>.slc none 0 [],fun E'=>rfl,⟨trivial,trivial,trivial⟩⟩⟩
end Sx
namespace Sv
theorem lawLead : Law Try.prog 64 ((rdD.two rdInt).sp spLead) := by
 refine law_in _ (by kernel_rfl) fun H w ⟨d,n⟩ hok hp=>?_
 obtain ⟨hd,hlen⟩ := hp _ (List.mem_singleton.2 rfl)
 simp only at hd hlen
 have hl := D.Is.length (α := Cy) d
 apply goS_sound (noCtr _) _ _ 300
 rw [show (rdD.two rdInt).canon (d,n) = [.dat d,.int .i64 n] from rfl,lea1_in]
 show Runs Try.prog ⟨w,H⟩ (leA d n) (RetD w H fun _=>.tup [.int .i64 (leadsI (d.to Cy) n).1,.bool (leadsI (d.to Cy) n).2])
 apply exec_sound (noCtr _) 300
 rw [lea2_in]
 show Runs Try.prog ⟨w,H⟩ (leX d n ((0 : Nat) : Int)) _
 refine runs_loop (fun p : Int × Nat=>leX d p.1 (p.2 : Int)) (fun p=>p.2 ≤ (d.to Cy).length ∧ leadsI ((d.to Cy).take p.2) n = (p.1,true)) (fun p=>(d.to Cy).length - p.2) (fun _=>rfl) ?_ (n,0) ⟨Nat.zero_le _,rfl⟩
 rintro ⟨f,j⟩ ⟨hj,hpre⟩ ih
 simp only at hj hpre
 apply exec_sound (noCtr _) 300
 rw [lex_go]
 refine ⟨fun hc=>?_,fun hc=>?_⟩
 ·have hc : j < (d.to Cy).length := by have := of_decide_eq_true hc; omega
  obtain ⟨c1,_,_,c3⟩ := cy_cell hd hc
  have eb : d.getInt (Int.toNat (j : Int)) 0 = ((d.to Cy)[j]).base := by rw [c3]; rfl
  have en : d.getInt (Int.toNat (j : Int)) 1 = ((d.to Cy)[j]).number := by rw [c3]; rfl
  have sn : leadsI ((d.to Cy).take (j + 1)) n = (((d.to Cy)[j]).number,!decide (((d.to Cy)[j]).base > f)) := by
   rw [List.take_succ_eq_append_getElem hc,leads_snoc,hpre,if_pos rfl]
  rw [eb,en]
  refine ⟨⟨by omega,by omega,hd.size hc⟩,c1,fun h1=>?_,fun h1=>?_⟩
  ·rw [h1] at sn
   have e : leadsI (d.to Cy) n = (((d.to Cy)[j]).number,false) := by rw [leads_cut (j := j + 1) (by rw [sn]; rfl),sn]; rfl
   rw [decide_eq_true (show (j : Int) ≥ 0 by omega)]
   exact ret_lead e
  ·rw [h1] at sn
   have := ih (((d.to Cy)[j]).number,j + 1) ⟨hc,sn⟩ (by simp only; omega)
   simp only at this
   rw [← wrap_succ hc (by omega)] at this
   exact this
 ·have : j = (d.to Cy).length := by have := of_decide_eq_false hc; omega
  subst this
  rw [List.take_length] at hpre
  exact ret_lead hpre
end Sv
end
noncomputable section
open Go Go.Proofs Sx
namespace Sv
def ctCk : Ctrs := [(56,ctrOf (rdTgt.one.sp spCT)),(57,ctrOf (rdSrc.one.sp spCS)),(87,ctrOf (rdNone.sp spMost)),(66,ctrOf (rdD.one.sp spOff)),(64,ctrOf ((rdD.two rdInt).sp spLead)),(73,ctrOf ((rdCy.two rdD).sp spCyCk)),(47,ctrOf ((rdD.two rdD).sp spInts))]
def eqiL (a b : D) (j : Int) : Conf := Conf.mk (SFrm.mk 47 none none [Item.inLoop (cA 47 [1,1,0,1,0,0]),Item.inBlock 0,Item.code (cA 47 [1,1,1])] (mkJ 0 [(0,.dat a),(1,.dat b),(12,.int .i64 (a.len : Int)),(13,.int .i64 j)] 0 26)) [] []
def ckL (x : RlD) (h : Hd) (e1 e2 e3 j : Int) : Conf := Conf.mk (SFrm.mk 17 none none [Item.inLoop (cA 17 [1,0,1,0,0]),Item.inBlock 0,Item.code (cA 17 [1,1])] (mkJ 0 [(1,.ptr 0 0),(14,.vec 1),(15,.int .i64 3),(16,.int .i64 j)] 0 29)) [] [(0,OBlk.cells 37 (rlCs x)),(1,OBlk.arr 40 (D.slc h 1 [[D.int .i64 e1],[D.int .i64 e2],[D.int .i64 e3]]))]
section
variable (a b d o k : D) (h : Hd) (n j a1 a2 a3 a4 b1 b2 b3 b4 e s st ap e1 e2 e3 : Int)
theorem eqi_in : exec Try.prog [] 200 (entry Try.prog 47 [.dat a,.dat b]) =
 Tree.br ((↑(D.len a) : Int) != (↑(D.len b) : Int)) (.ret (.lb false))
 (.leaf
 (Conf.mk
 (SFrm.mk 47 none none
 [Item.inLoop (cA 47 [1,1,0,1,0,0]),Item.inBlock 0,Item.code (cA 47 [1,1,1])]
 (mkJ 0 [(0,.dat a),(1,.dat b),(12,.int .i64 (↑(D.len a) : Int)),(13,.int .i64 0)] 0
 26))
 [] [])) := by kernel_rfl
theorem eqi_go : exec Try.prog [] 200 (unroll (eqiL a b j)) =
 Tree.br (decide (j < (↑(D.len a) : Int)))
 (.all fun hs =>
 .need (0 ≤ j ∧ j < (↑(D.len a) : Int) ∧ D.sz a = 1)
 (.need (D.HasCell a (Int.toNat j) 0 (FT.int .i64))
 (.need (0 ≤ j ∧ j < (↑(D.len b) : Int) ∧ D.sz b = 1)
 (.need (D.HasCell b (Int.toNat j) 0 (FT.int .i64))
 (.br (D.getInt a (Int.toNat j) 0 != D.getInt b (Int.toNat j) 0) (.ret (.lb false))
 (.leaf
 (Conf.mk
 (SFrm.mk 47 none none
 [Item.inLoop (cA 47 [1,1,0,1,0,0]),Item.inBlock 0,
 Item.code (cA 47 [1,1,1])]
 (mkJ 0
 [(0,.dat a),(1,.dat b),(12,.int .i64 (↑(D.len a) : Int)),
 (13,.int .i64 (IntKind.wrap .i64 (j + 1)))]
 0 26))
 [] [])))))))
 (.ret (.lb true)) := by kernel_rfl
theorem ck_in : exec Try.prog ctCk 300 (entry Try.prog 17 [.agg [.int .i64 a1,.int .i64 a2,.int .i64 a3,.int .i64 a4,.int .i64 b1,.int .i64 b2,.int .i64 b3,.int .i64 b4,.int .i64 e,.int .i64 s,.dat o,.int .i64 st,.int .i64 ap,.dat k]]) =
 Tree.all fun hs =>
 .need (D.Is Int o)
 (.leaf
 (Conf.mk
 (SFrm.mk 17 none none
 [Item.inLoop (cA 17 [1,0,1,0,0]),Item.inBlock 0,Item.code (cA 17 [1,1])]
 (mkJ 0
 [(1,.ptr 0 0),(14,.vec 1),
 (15,
 .int .i64
 (↑(D.len
 (D.slc (D.hd (hs 9 0)) 1
 [[D.int .i64 (checkTarget (Tgt.mk a1 a2 a3 a4))],
 [D.int .i64 (checkTarget (Tgt.mk b1 b2 b3 b4))],
 [D.int .i64 (checkSource (SrcD.src (SrcD.mk e s o st ap)))]])) :
 Int)),
 (16,.int .i64 0)]
 0 29))
 []
 [(0,
 OBlk.cells 37
 [.int .i64 a1,.int .i64 a2,.int .i64 a3,.int .i64 a4,
 .int .i64 b1,.int .i64 b2,.int .i64 b3,.int .i64 b4,
 .int .i64 e,.int .i64 s,.dat o,.int .i64 st,.int .i64 ap,
 .dat k]),
 (1,
 OBlk.arr 40
 (D.slc (D.hd (hs 9 0)) 1
 [[D.int .i64 (checkTarget (Tgt.mk a1 a2 a3 a4))],
 [D.int .i64 (checkTarget (Tgt.mk b1 b2 b3 b4))],
 [D.int .i64 (checkSource (SrcD.src (SrcD.mk e s o st ap)))]]))])) := by kernel_rfl
theorem ck0_go : goS Try.prog ctCk (fun _=>false) [(58,2)] 100 (unroll (ckL ⟨⟨a1,a2,a3,a4⟩,⟨b1,b2,b3,b4⟩,⟨e,s,o,st,ap⟩,k⟩ h e1 e2 e3 0)) =
 Tree.br true
 (.need
 ((0 : Int) ≤ 0 ∧
 0 < (↑(D.len (D.slc h 1 [[D.int .i64 e1],[D.int .i64 e2],[D.int .i64 e3]])) : Int) ∧
 D.sz (D.slc h 1 [[D.int .i64 e1],[D.int .i64 e2],[D.int .i64 e3]]) = 1)
 (.need
 (D.HasCell (D.slc h 1 [[D.int .i64 e1],[D.int .i64 e2],[D.int .i64 e3]]) 0 0
 (FT.int .i64) ∧
 D.sz (D.slc h 1 [[D.int .i64 e1],[D.int .i64 e2],[D.int .i64 e3]]) = 1)
 (.br (D.getInt (D.slc h 1 [[D.int .i64 e1],[D.int .i64 e2],[D.int .i64 e3]]) 0 0 != 0)
 (.ret
 (.int .i64
 (D.getInt (D.slc h 1 [[D.int .i64 e1],[D.int .i64 e2],[D.int .i64 e3]]) 0 0)))
 (.leaf
 (Conf.mk
 (SFrm.mk 17 none none
 [Item.inLoop (cA 17 [1,0,1,0,0]),Item.inBlock 0,Item.code (cA 17 [1,1])]
 (mkJ 0
 [(1,.ptr 0 0),(14,.vec 1),(15,.int .i64 3),
 (16,.int .i64 (IntKind.wrap .i64 (0 + 1)))]
 0 29))
 []
 [(0,
 OBlk.cells 37
 [.int .i64 a1,.int .i64 a2,.int .i64 a3,.int .i64 a4,
 .int .i64 b1,.int .i64 b2,.int .i64 b3,.int .i64 b4,
 .int .i64 e,.int .i64 s,.dat o,.int .i64 st,.int .i64 ap,
 .dat k]),
 (1,
 OBlk.arr 40 (D.slc h 1 [[D.int .i64 e1],[D.int .i64 e2],[D.int .i64 e3]]))])))))
 (.leaf
 (Conf.mk
 (SFrm.mk 58 none none [Item.code (cA 58 [0]),Item.code (cA 58 [1])]
 (mkJ 1 [(0,.ptr 0 0)] 0 157))
 [SFrm.mk 17 (some (oA 17 [1,1,0,0],[4])) (some 27)
 [Item.code (cA 17 [1,1,0,1]),Item.code (cA 17 [1,1,1])] (mkJ 0 [] 0 29)]
 [(0,
 OBlk.cells 115
 [.int .i64 a1,.int .i64 a2,.int .i64 a3,.int .i64 a4,
 .int .i64 b1,.int .i64 b2,.int .i64 b3,.int .i64 b4,
 .int .i64 e,.int .i64 s,.dat o,.int .i64 st,.int .i64 ap,
 .dat k])])) := by kernel_rfl
theorem ck1_go : goS Try.prog ctCk (fun _=>false) [(58,2)] 100 (unroll (ckL ⟨⟨a1,a2,a3,a4⟩,⟨b1,b2,b3,b4⟩,⟨e,s,o,st,ap⟩,k⟩ h e1 e2 e3 1)) =
 Tree.br true
 (.need
 ((0 : Int) ≤ 1 ∧
 1 < (↑(D.len (D.slc h 1 [[D.int .i64 e1],[D.int .i64 e2],[D.int .i64 e3]])) : Int) ∧
 D.sz (D.slc h 1 [[D.int .i64 e1],[D.int .i64 e2],[D.int .i64 e3]]) = 1)
 (.need
 (D.HasCell (D.slc h 1 [[D.int .i64 e1],[D.int .i64 e2],[D.int .i64 e3]]) 1 0
 (FT.int .i64) ∧
 D.sz (D.slc h 1 [[D.int .i64 e1],[D.int .i64 e2],[D.int .i64 e3]]) = 1)
 (.br (D.getInt (D.slc h 1 [[D.int .i64 e1],[D.int .i64 e2],[D.int .i64 e3]]) 1 0 != 0)
 (.ret
 (.int .i64
 (D.getInt (D.slc h 1 [[D.int .i64 e1],[D.int .i64 e2],[D.int .i64 e3]]) 1 0)))
 (.leaf
 (Conf.mk
 (SFrm.mk 17 none none
 [Item.inLoop (cA 17 [1,0,1,0,0]),Item.inBlock 0,Item.code (cA 17 [1,1])]
 (mkJ 0
 [(1,.ptr 0 0),(14,.vec 1),(15,.int .i64 3),
 (16,.int .i64 (IntKind.wrap .i64 (1 + 1)))]
 0 29))
 []
 [(0,
 OBlk.cells 37
 [.int .i64 a1,.int .i64 a2,.int .i64 a3,.int .i64 a4,
 .int .i64 b1,.int .i64 b2,.int .i64 b3,.int .i64 b4,
 .int .i64 e,.int .i64 s,.dat o,.int .i64 st,.int .i64 ap,
 .dat k]),
 (1,
 OBlk.arr 40 (D.slc h 1 [[D.int .i64 e1],[D.int .i64 e2],[D.int .i64 e3]]))])))))
 (.leaf
 (Conf.mk
 (SFrm.mk 58 none none [Item.code (cA 58 [0]),Item.code (cA 58 [1])]
 (mkJ 1 [(0,.ptr 0 0)] 0 157))
 [SFrm.mk 17 (some (oA 17 [1,1,0,0],[4])) (some 27)
 [Item.code (cA 17 [1,1,0,1]),Item.code (cA 17 [1,1,1])] (mkJ 0 [] 0 29)]
 [(0,
 OBlk.cells 115
 [.int .i64 a1,.int .i64 a2,.int .i64 a3,.int .i64 a4,
 .int .i64 b1,.int .i64 b2,.int .i64 b3,.int .i64 b4,
 .int .i64 e,.int .i64 s,.dat o,.int .i64 st,.int .i64 ap,
 .dat k])])) := by kernel_rfl
theorem ck2_go : goS Try.prog ctCk (fun _=>false) [(58,2)] 100 (unroll (ckL ⟨⟨a1,a2,a3,a4⟩,⟨b1,b2,b3,b4⟩,⟨e,s,o,st,ap⟩,k⟩ h e1 e2 e3 2)) =
 Tree.br true
 (.need
 ((0 : Int) ≤ 2 ∧
 2 < (↑(D.len (D.slc h 1 [[D.int .i64 e1],[D.int .i64 e2],[D.int .i64 e3]])) : Int) ∧
 D.sz (D.slc h 1 [[D.int .i64 e1],[D.int .i64 e2],[D.int .i64 e3]]) = 1)
 (.need
 (D.HasCell (D.slc h 1 [[D.int .i64 e1],[D.int .i64 e2],[D.int .i64 e3]]) 2 0
 (FT.int .i64) ∧
 D.sz (D.slc h 1 [[D.int .i64 e1],[D.int .i64 e2],[D.int .i64 e3]]) = 1)
 (.br (D.getInt (D.slc h 1 [[D.int .i64 e1],[D.int .i64 e2],[D.int .i64 e3]]) 2 0 != 0)
 (.ret
 (.int .i64
 (D.getInt (D.slc h 1 [[D.int .i64 e1],[D.int .i64 e2],[D.int .i64 e3]]) 2 0)))
 (.leaf
 (Conf.mk
 (SFrm.mk 17 none none
 [Item.inLoop (cA 17 [1,0,1,0,0]),Item.inBlock 0,Item.code (cA 17 [1,1])]
 (mkJ 0
 [(1,.ptr 0 0),(14,.vec 1),(15,.int .i64 3),
 (16,.int .i64 (IntKind.wrap .i64 (2 + 1)))]
 0 29))
 []
 [(0,
 OBlk.cells 37
 [.int .i64 a1,.int .i64 a2,.int .i64 a3,.int .i64 a4,
 .int .i64 b1,.int .i64 b2,.int .i64 b3,.int .i64 b4,
 .int .i64 e,.int .i64 s,.dat o,.int .i64 st,.int .i64 ap,
 .dat k]),
 (1,
 OBlk.arr 40 (D.slc h 1 [[D.int .i64 e1],[D.int .i64 e2],[D.int .i64 e3]]))])))))
 (.leaf
 (Conf.mk
 (SFrm.mk 58 none none [Item.code (cA 58 [0]),Item.code (cA 58 [1])]
 (mkJ 1 [(0,.ptr 0 0)] 0 157))
 [SFrm.mk 17 (some (oA 17 [1,1,0,0],[4])) (some 27)
 [Item.code (cA 17 [1,1,0,1]),Item.code (cA 17 [1,1,1])] (mkJ 0 [] 0 29)]
 [(0,
 OBlk.cells 115
 [.int .i64 a1,.int .i64 a2,.int .i64 a3,.int .i64 a4,
 .int .i64 b1,.int .i64 b2,.int .i64 b3,.int .i64 b4,
 .int .i64 e,.int .i64 s,.dat o,.int .i64 st,.int .i64 ap,
 .dat k])])) := by kernel_rfl
theorem ck3_go : goS Try.prog ctCk (fun _=>false) [(58,2)] 100 (unroll (ckL ⟨⟨a1,a2,a3,a4⟩,⟨b1,b2,b3,b4⟩,⟨e,s,o,st,ap⟩,k⟩ h e1 e2 e3 3)) =
 Tree.br false
 (.need
 ((0 : Int) ≤ 3 ∧
 3 < (↑(D.len (D.slc h 1 [[D.int .i64 e1],[D.int .i64 e2],[D.int .i64 e3]])) : Int) ∧
 D.sz (D.slc h 1 [[D.int .i64 e1],[D.int .i64 e2],[D.int .i64 e3]]) = 1)
 (.need
 (D.HasCell (D.slc h 1 [[D.int .i64 e1],[D.int .i64 e2],[D.int .i64 e3]]) 3 0
 (FT.int .i64) ∧
 D.sz (D.slc h 1 [[D.int .i64 e1],[D.int .i64 e2],[D.int .i64 e3]]) = 1)
 (.br (D.getInt (D.slc h 1 [[D.int .i64 e1],[D.int .i64 e2],[D.int .i64 e3]]) 3 0 != 0)
 (.ret
 (.int .i64
 (D.getInt (D.slc h 1 [[D.int .i64 e1],[D.int .i64 e2],[D.int .i64 e3]]) 3 0)))
 (.leaf
 (Conf.mk
 (SFrm.mk 17 none none
 [Item.inLoop (cA 17 [1,0,1,0,0]),Item.inBlock 0,Item.code (cA 17 [1,1])]
 (mkJ 0
 [(1,.ptr 0 0),(14,.vec 1),(15,.int .i64 3),
 (16,.int .i64 (IntKind.wrap .i64 (3 + 1)))]
 0 29))
 []
 [(0,
 OBlk.cells 37
 [.int .i64 a1,.int .i64 a2,.int .i64 a3,.int .i64 a4,
 .int .i64 b1,.int .i64 b2,.int .i64 b3,.int .i64 b4,
 .int .i64 e,.int .i64 s,.dat o,.int .i64 st,.int .i64 ap,
 .dat k]),
 (1,
 OBlk.arr 40 (D.slc h 1 [[D.int .i64 e1],[D.int .i64 e2],[D.int .i64 e3]]))])))))
 (.leaf
 (Conf.mk
 (SFrm.mk 58 none none [Item.code (cA 58 [0]),Item.code (cA 58 [1])]
 (mkJ 1 [(0,.ptr 0 0)] 0 157))
 [SFrm.mk 17 (some (oA 17 [1,1,0,0],[4])) (some 27)
 [Item.code (cA 17 [1,1,0,1]),Item.code (cA 17 [1,1,1])] (mkJ 0 [] 0 29)]
 [(0,
 OBlk.cells 115
 [.int .i64 a1,.int .i64 a2,.int .i64 a3,.int .i64 a4,
 .int .i64 b1,.int .i64 b2,.int .i64 b3,.int .i64 b4,
 .int .i64 e,.int .i64 s,.dat o,.int .i64 st,.int .i64 ap,
 .dat k])])) := by kernel_rfl
end
end Sv
end
noncomputable section
open Go Go.Proofs Sx
namespace Sx
def anyCy (s : List Int) (l : List Cy) : Bool := l.any fun c=>decide (cyErr c s ≠ 0)
def spAnyCy (d s : D) : SpecR := .scalar [d.Is Cy ∧ d.len ≤ 1048576 ∧ (∀ c,c ∈ d.to Cy → CyOk c) ∧ s.Is Int ∧ s.len ≤ 1048576] (.bool (anyCy (s.to Int) (d.to Cy)))
end Sx
namespace Sv
def cfX (d s : D) (b : Nat) (j : Int) : Conf := Conf.mk (SFrm.mk 128 none none [Item.inLoop (cA 128 [1,0,1,0,0]),Item.inBlock 0,Item.code (cA 128 [1,1])] (mkJ 1 [(0,.dat d),(1,SV.fn 100 [] [SV.elt (rowD b [s]) 0 0]),(7,.int .i64 (d.len : Int)),(8,.int .i64 j)] 0 19)) [SFrm.mk 99 (some (oA 99 [1,0],[3,4])) (some 7) [Item.code (cA 99 [1,1])] (mkU [(0,.dat d),(1,SV.fn 100 [] [SV.elt (rowD b [s]) 0 0]),(4,.lb false),(5,.dat d),(6,SV.fn 100 [] [SV.elt (rowD b [s]) 0 0])] 0 9)] []
def ctFm : Ctrs := [(87,ctrOf (rdNone.sp spMost)),(66,ctrOf (rdD.one.sp spOff)),(64,ctrOf ((rdD.two rdInt).sp spLead)),(99,fCtr 100 spAnyCy),(47,ctrOf ((rdD.two rdD).sp spInts))]
def fmA (x : RlD) : Conf := Conf.mk (SFrm.mk 58 none none [Item.code (cA 58 [0]),Item.code (cA 58 [1])] (mkJ 1 [(0,.ptr 0 0)] 0 157)) [SFrm.mk 17 (some (oA 17 [1,1,0,0],[4])) (some 27) [Item.code (cA 17 [1,1,0,1]),Item.code (cA 17 [1,1,1])] (mkJ 0 [] 0 29)] [(0,OBlk.cells 115 (rlCs x))]
section
variable (d s o k : D) (b : Nat) (j a1 a2 a3 a4 b1 b2 b3 b4 e si st ap : Int)
theorem cfx_go : exec Try.prog ctCyc 300 (unroll (cfX d s b j)) =
 Tree.br (decide (j < (↑(D.len d) : Int)))
 (.need (0 ≤ j ∧ j < (↑(D.len d) : Int) ∧ D.sz d = 5)
 (.need
 (D.HasCells d (Int.toNat j) 0 [FT.int .i64,FT.int .i64,FT.int .i64,FT.slc,FT.slc])
 (.need (D.HasCell (rowD b [s]) 0 0 FT.slc)
 (.need
 (CyD.Ok
 (CyD.mk (D.getInt d (Int.toNat j) 0) (D.getInt d (Int.toNat j) 1) (D.getInt d (Int.toNat j) 2)
 (D.cell d (Int.toNat j) 3) (D.cell d (Int.toNat j) 4)) ∧
 D.Is Int (D.cell (rowD b [s]) 0 0) ∧ D.len (D.cell (rowD b [s]) 0 0) ≤ 1048576)
 (.br
 (cyErr
 (CyD.cy
 (CyD.mk (D.getInt d (Int.toNat j) 0) (D.getInt d (Int.toNat j) 1) (D.getInt d (Int.toNat j) 2)
 (D.cell d (Int.toNat j) 3) (D.cell d (Int.toNat j) 4)))
 (D.to Int (D.cell (rowD b [s]) 0 0)) !=
 0)
 (.ret (.bool (decide (j ≥ 0))))
 (.leaf
 (Conf.mk
 (SFrm.mk 128 none none
 [Item.inLoop (cA 128 [1,0,1,0,0]),Item.inBlock 0,Item.code (cA 128 [1,1])]
 (mkJ 1
 [(0,.dat d),(1,SV.fn 100 [] [SV.elt (rowD b [s]) 0 0]),
 (7,.int .i64 (↑(D.len d) : Int)),
 (8,.int .i64 (IntKind.wrap .i64 (j + 1)))]
 0 19))
 [SFrm.mk 99 (some (oA 99 [1,0],[3,4])) (some 7) [Item.code (cA 99 [1,1])]
 (mkU
 [(0,.dat d),(1,SV.fn 100 [] [SV.elt (rowD b [s]) 0 0]),(4,.lb false),(5,.dat d),
 (6,SV.fn 100 [] [SV.elt (rowD b [s]) 0 0])]
 0 9)]
 [])))))))
 (.ret (.bool false)) := by kernel_rfl


end
end Sv
end
noncomputable section
open Go Go.Proofs Sx
namespace Sv
theorem lawEqI : Law Try.prog 47 ((rdD.two rdD).sp spInts) := by
 refine law_in _ (by kernel_rfl) fun H w ⟨a,b⟩ hok hp=>?_
 obtain ⟨ha,hb,hlen⟩ := hp _ (List.mem_singleton.2 rfl)
 simp only at ha hb hlen
 have hla := D.Is.length (α := Int) a
 have hlb := D.Is.length (α := Int) b
 apply exec_sound (noCtr _) 200
 rw [show (rdD.two rdD).canon (a,b) = [.dat a,.dat b] from rfl,eqi_in]
 refine ⟨fun hc=>ret_lb ?_,fun hc=>?_⟩
 ·exact same_not fun he=>by simp [hla,hlb,he] at hc
 have hc' : (a.to Int).length = (b.to Int).length := by simp [hla,hlb] at hc; omega
 refine runs_loop (fun j : Nat=>eqiL a b j) (fun j=>j ≤ (a.to Int).length ∧ (a.to Int).take j = (b.to Int).take j) (fun j=>(a.to Int).length - j) (fun _=>rfl) ?_ 0 ⟨Nat.zero_le _,rfl⟩
 intro j ⟨hj,hpre⟩ ih
 apply exec_sound (noCtr _) 200
 rw [eqi_go]
 refine ⟨fun hc _=>?_,fun hc=>ret_lb ?_⟩
 ·have hc : j < (a.to Int).length := by have := of_decide_eq_true hc; omega
  obtain ⟨c1,c2,c3⟩ := int_at ha hc
  obtain ⟨e1,e2,e3⟩ := int_at hb (hc' ▸ hc)
  refine ⟨c1,c2,e1,e2,fun h=>ret_lb ?_,fun h=>?_⟩
  ·refine same_not fun he=>?_
   simp only [c3,e3,he,bne_self_eq_false] at h
   cases h
  ·have hx : (a.to Int)[j] = (b.to Int)[j]'(hc' ▸ hc) := by rw [c3,e3] at h; simpa using h
   have := ih (j + 1) ⟨hc,take_succ_eq hc (hc' ▸ hc) hpre hx⟩ (by omega)
   rw [← wrap_succ hc (by omega)] at this
   exact this
 ·have := of_decide_eq_false hc
  exact (decide_eq_true (list_eq_of hc' (by omega) hpre)).symm
theorem ctCycOk : Ctrs.Ok Try.prog ctCyc := by
 intro x hx
 rw [List.mem_singleton.1 hx]; exact ctrOf_ok lawCyCk
theorem anyCy_snoc (s : List Int) (l : List Cy) (c : Cy) : anyCy s (l ++ [c]) = (anyCy s l || decide (cyErr c s ≠ 0)) := by simp [anyCy]
theorem anyCy_cut {s : List Int} {l : List Cy} {j : Nat} (hj : j < l.length) (h : cyErr l[j] s ≠ 0) : anyCy s l = true := List.any_eq_true.2 ⟨_,List.getElem_mem hj,by simpa using h⟩
theorem lawAnyCy : FLaw Try.prog 99 100 spAnyCy := by
 refine ⟨by kernel_rfl,fun H w b d s hrow hdo hds hso hss=>?_⟩
 intro hp
 obtain ⟨hd,hlen,hcs,hs,hsl⟩ := hp _ (List.mem_singleton.2 rfl)
 have hl := D.Is.length (α := Cy) d
 apply exec_sound ctCycOk 300
 rw [cfc_in]
 show Runs Try.prog ⟨w,H⟩ (cfX d s b ((0 : Nat) : Int)) _
 refine runs_loop (fun j : Nat=>cfX d s b (j : Int)) (fun j=>j ≤ (d.to Cy).length ∧ anyCy (s.to Int) ((d.to Cy).take j) = false) (fun j=>(d.to Cy).length - j) (fun _=>rfl) ?_ 0 ⟨Nat.zero_le _,rfl⟩
 intro j ⟨hj,hpre⟩ ih
 apply exec_sound ctCycOk 300
 rw [cfx_go]
 have e0 : (rowD b [s]).cell 0 0 = s := rfl
 have c0 : (rowD b [s]).HasCell 0 0 .slc := by obtain ⟨x,y,z,rfl⟩ := hss; exact ⟨x,y,z,rfl⟩
 rw [e0]
 refine ⟨fun hc=>?_,fun hc=>ret_bool ?_⟩
 ·have hc : j < (d.to Cy).length := by have := of_decide_eq_true hc; omega
  obtain ⟨c1,_,_,c3⟩ := cy_cell hd hc
  refine ⟨⟨by omega,by omega,hd.size hc⟩,c1,c0,⟨cyD_ok hd hcs hc,hs,hsl⟩,fun h=>ret_bool ?_,fun h=>?_⟩
  ·have h : cyErr (d.to Cy)[j] (s.to Int) ≠ 0 := by rw [c3]; simpa using h
   rw [anyCy_cut hc h]
   exact decide_eq_true (by omega)
  ·have h : cyErr (d.to Cy)[j] (s.to Int) = 0 := by rw [c3]; simpa using h
   have := ih (j + 1) ⟨hc,by rw [List.take_succ_eq_append_getElem hc,anyCy_snoc,hpre,h]; rfl⟩ (by omega)
   rw [← wrap_succ hc (by omega)] at this
   exact this
 ·have : j = (d.to Cy).length := by have := of_decide_eq_false hc; omega
  subst this
  rw [List.take_length] at hpre
  exact hpre.symm
def fmS : List (FuncId × Nat) := [(58,64),(58,107),(58,108),(58,132)]
section
variable (d s o k : D) (b : Nat) (j a1 a2 a3 a4 b1 b2 b3 b4 e si st ap : Int)
theorem fmA_go : 
 let z1 : Prop := (decide (a2 = b2) = false)
 let z2 : Prop := (decide (a2 = b2) = true)
 goS Try.prog ctFm (fun _=>false) fmS 300 (fmA ⟨⟨a1,a2,a3,a4⟩,⟨b1,b2,b3,b4⟩,⟨e,si,o,st,ap⟩,k⟩) =
 Tree.all fun hs=>.br (decide (a2 = b2)) (.need z2 (.need z2 (.need z2 (.need z2 (.need z2 (.need z2 (.need z2 (.need z2 (.need z2 (.need z2 (.need z2 (.need z2 (.need z2 (.need z2 (.ret (.int .i64 3))))))))))))))))
 (.br (si != b2) (.need z1 (.need z1 (.need z1 (.need z1 (.need z1 (.need z1 (.need z1 (.need z1 (.need z1 (.need z1 (.need z1 (.need z1 (.need z1 (.need z1 (.need ((si != b2) = true) (.need ((si != b2) = true)
 (.need ((si != b2) = true) (.need ((si != b2) = true) (.need ((si != b2) = true) (.need ((si != b2) = true) (.need ((si != b2) = true) (.need ((si != b2) = true) (.need ((si != b2) = true) (.need ((si != b2) = true)
 (.need ((si != b2) = true) (.need ((si != b2) = true) (.need ((si != b2) = true) (.need ((si != b2) = true) (.ret (.int .i64 3)))))))))))))))))))))))))))))) (.br (a1 != b1) (.need z1 (.need z1 (.need z1
 (.need z1 (.need z1 (.need z1 (.need z1 (.need z1 (.need z1 (.need z1 (.need z1 (.need z1 (.need z1 (.need z1 (.need ((si != b2) = false) (.need ((si != b2) = false) (.need ((si != b2) = false) (.need
 ((si != b2) = false) (.need ((si != b2) = false) (.need ((si != b2) = false) (.need ((si != b2) = false) (.need ((si != b2) = false) (.need ((si != b2) = false) (.need ((si != b2) = false) (.need ((si != b2) = false)
 (.need ((si != b2) = false) (.need ((si != b2) = false) (.need ((si != b2) = false) (.need ((a1 != b1) = true) (.need ((a1 != b1) = true) (.need ((a1 != b1) = true) (.need ((a1 != b1) = true) (.need ((a1 != b1) = true)
 (.need ((a1 != b1) = true) (.need ((a1 != b1) = true) (.need ((a1 != b1) = true) (.need ((a1 != b1) = true) (.need ((a1 != b1) = true) (.need ((a1 != b1) = true) (.need ((a1 != b1) = true) (.need ((a1 != b1) = true)
 (.need ((a1 != b1) = true) (.ret (.int .i64 3)))))))))))))))))))))))))))))))))))))))))))) (.need z1 (.need z1 (.need z1 (.need z1 (.need z1 (.need z1 (.need z1 (.need z1 (.need z1 (.need z1 (.need z1 (.need z1
 (.need z1 (.need z1 (.need ((si != b2) = false) (.need ((si != b2) = false) (.need ((si != b2) = false) (.need ((si != b2) = false) (.need ((si != b2) = false) (.need ((si != b2) = false) (.need ((si != b2) = false)
 (.need ((si != b2) = false) (.need ((si != b2) = false) (.need ((si != b2) = false) (.need ((si != b2) = false) (.need ((si != b2) = false) (.need ((si != b2) = false) (.need ((si != b2) = false) (.need
 ((a1 != b1) = false) (.need ((a1 != b1) = false) (.need ((a1 != b1) = false) (.need ((a1 != b1) = false) (.need ((a1 != b1) = false) (.need ((a1 != b1) = false) (.need ((a1 != b1) = false) (.need ((a1 != b1) = false)
 (.need ((a1 != b1) = false) (.need ((a1 != b1) = false) (.need ((a1 != b1) = false) (.need ((a1 != b1) = false) (.need ((a1 != b1) = false) (.need ((a1 != b1) = false) (.br (a1 != e) (.ret (.int .i64 3))
 (.leaf (Conf.mk (SFrm.mk 58 none none [Item.code (cA 58 [1,1,0,0]),Item.code (cA 58 [1,1,0,1]),Item.code (cA 58 [1,1,1])] (mkJ 1 [(0,.ptr 0 0)] 0 157)) [SFrm.mk 17 (some (oA 17 [1,1,0,0],[4]))
 (some 27) [Item.code (cA 17 [1,1,0,1]),Item.code (cA 17 [1,1,1])] (mkJ 0 [] 0 29)] [(0,OBlk.cells 115 [.int .i64 a1,.int .i64 a2,.int .i64 a3,.int .i64 a4,.int .i64 b1,.int .i64 b2,.int .i64 b3,.int .i64 b4,.int .i64 e,.int .i64 si,.dat o,.int .i64 st,.int .i64 ap,.dat k])]))))))))))))))))))))))))))))))))))))))))))))))) := by
 intros; kernel_rfl
end
def fmK : List SFrm := [SFrm.mk 17 (some (oA 17 [1,1,0,0],[4])) (some 27) [Item.code (cA 17 [1,1,0,1]),Item.code (cA 17 [1,1,1])] (mkJ 0 [] 0 29)]
def fmB (x : RlD) : Conf := Conf.mk (SFrm.mk 58 none none [Item.code (cA 58 [1,1,0,0]),Item.code (cA 58 [1,1,0,1]),Item.code (cA 58 [1,1,1])] (mkJ 1 [(0,.ptr 0 0)] 0 157)) fmK [(0,OBlk.cells 115 (rlCs x))]
def fmC (x : RlD) : Conf := Conf.mk (SFrm.mk 58 none none [Item.code (cA 58 [1,1,1,0]),Item.code (cA 58 [1,1,1,1])] (mkJ 1 [(0,.ptr 0 0)] 0 157)) fmK [(0,OBlk.cells 115 (rlCs x))]
section
variable (d s o k : D) (b : Nat) (j a1 a2 a3 a4 b1 b2 b3 b4 e si st ap : Int)
theorem fmB_go : goS Try.prog ctFm (fun _=>false) fmS 300 (fmB ⟨⟨a1,a2,a3,a4⟩,⟨b1,b2,b3,b4⟩,⟨e,si,o,st,ap⟩,k⟩) =
 Tree.all fun hs =>
 .br (a3 != a4)
 (.need ((a3 != a4) = true)
 (.need ((a3 != a4) = true)
 (.need ((a3 != a4) = true)
 (.need ((a3 != a4) = true)
 (.need ((a3 != a4) = true)
 (.need ((a3 != a4) = true)
 (.need ((a3 != a4) = true)
 (.need ((a3 != a4) = true)
 (.need ((a3 != a4) = true)
 (.need ((a3 != a4) = true)
 (.need ((a3 != a4) = true)
 (.need ((a3 != a4) = true)
 (.need ((a3 != a4) = true)
 (.need ((a3 != a4) = true) (.ret (.int .i64 3))))))))))))))))
 (.br (b3 != st)
 (.need ((a3 != a4) = false)
 (.need ((a3 != a4) = false)
 (.need ((a3 != a4) = false)
 (.need ((a3 != a4) = false)
 (.need ((a3 != a4) = false)
 (.need ((a3 != a4) = false)
 (.need ((a3 != a4) = false)
 (.need ((a3 != a4) = false)
 (.need ((a3 != a4) = false)
 (.need ((a3 != a4) = false)
 (.need ((a3 != a4) = false)
 (.need ((a3 != a4) = false)
 (.need ((a3 != a4) = false)
 (.need ((a3 != a4) = false)
 (.need ((b3 != st) = true)
 (.need ((b3 != st) = true)
 (.need ((b3 != st) = true)
 (.need ((b3 != st) = true)
 (.need ((b3 != st) = true)
 (.need ((b3 != st) = true)
 (.need ((b3 != st) = true)
 (.need ((b3 != st) = true)
 (.need ((b3 != st) = true)
 (.need ((b3 != st) = true)
 (.need ((b3 != st) = true)
 (.need ((b3 != st) = true)
 (.need ((b3 != st) = true)
 (.need ((b3 != st) = true)
 (.ret
 (.int .i64 3))))))))))))))))))))))))))))))
 (.need ((a3 != a4) = false)
 (.need ((a3 != a4) = false)
 (.need ((a3 != a4) = false)
 (.need ((a3 != a4) = false)
 (.need ((a3 != a4) = false)
 (.need ((a3 != a4) = false)
 (.need ((a3 != a4) = false)
 (.need ((a3 != a4) = false)
 (.need ((a3 != a4) = false)
 (.need ((a3 != a4) = false)
 (.need ((a3 != a4) = false)
 (.need ((a3 != a4) = false)
 (.need ((a3 != a4) = false)
 (.need ((a3 != a4) = false)
 (.need ((b3 != st) = false)
 (.need ((b3 != st) = false)
 (.need ((b3 != st) = false)
 (.need ((b3 != st) = false)
 (.need ((b3 != st) = false)
 (.need ((b3 != st) = false)
 (.need ((b3 != st) = false)
 (.need ((b3 != st) = false)
 (.need ((b3 != st) = false)
 (.need ((b3 != st) = false)
 (.need ((b3 != st) = false)
 (.need ((b3 != st) = false)
 (.need ((b3 != st) = false)
 (.need ((b3 != st) = false)
 (.br (b4 != ap) (.ret (.int .i64 3))
 (.leaf
 (Conf.mk
 (SFrm.mk 58 none none
 [Item.code (cA 58 [1,1,1,0]),
 Item.code (cA 58 [1,1,1,1])]
 (mkJ 1 [(0,.ptr 0 0)] 0 157))
 [SFrm.mk 17
 (some (oA 17 [1,1,0,0],[4]))
 (some 27)
 [Item.code (cA 17 [1,1,0,1]),
 Item.code (cA 17 [1,1,1])]
 (mkJ 0 [] 0 29)]
 [(0,
 OBlk.cells 115
 [.int .i64 a1,.int .i64 a2,
 .int .i64 a3,
 .int .i64 a4,
 .int .i64 b1,
 .int .i64 b2,
 .int .i64 b3,
 .int .i64 b4,.int .i64 e,
 .int .i64 si,.dat o,
 .int .i64 st,
 .int .i64 ap,
 .dat k])])))))))))))))))))))))))))))))))) := by kernel_rfl
theorem fmC_go : goS Try.prog ctFm (fun _=>false) fmS 300 (fmC ⟨⟨a1,a2,a3,a4⟩,⟨b1,b2,b3,b4⟩,⟨e,si,o,st,ap⟩,k⟩) =
 Tree.all fun hs =>
 .leaf
 (Conf.mk
 (SFrm.mk 58 none none
 [Item.code (cA 58 [1,1,1,1,0,0]),Item.code (cA 58 [1,1,1,1,0,1]),
 Item.code (cA 58 [1,1,1,1,1])]
 (mkJ 1 [(0,.ptr 0 0),(3,.ptr 1 0)] 0 157))
 [SFrm.mk 17 (some (oA 17 [1,1,0,0],[4])) (some 27)
 [Item.code (cA 17 [1,1,0,1]),Item.code (cA 17 [1,1,1])] (mkJ 0 [] 0 29)]
 [(0,
 OBlk.cells 115
 [.int .i64 a1,.int .i64 a2,.int .i64 a3,.int .i64 a4,
 .int .i64 b1,.int .i64 b2,.int .i64 b3,.int .i64 b4,
 .int .i64 e,.int .i64 si,.dat o,.int .i64 st,.int .i64 ap,
 .dat k]),
 (1,OBlk.cells 32 [.dat (D.like (hs 0 0) most)])]) := by kernel_rfl
end
def fmD (x : RlD) (s : D) : Conf := Conf.mk (SFrm.mk 58 none none [Item.code (cA 58 [1,1,1,1,0,0]),Item.code (cA 58 [1,1,1,1,0,1]),Item.code (cA 58 [1,1,1,1,1])] (mkJ 1 [(0,.ptr 0 0),(3,.ptr 1 0)] 0 157)) fmK [(0,OBlk.cells 115 (rlCs x)),(1,OBlk.cells 32 [.dat s])]
section
variable (d s o k : D) (b : Nat) (j a1 a2 a3 a4 b1 b2 b3 b4 e si st ap : Int)
theorem fmD_go : goS Try.prog ctFm (fun _=>false) fmS 300 (fmD ⟨⟨a1,a2,a3,a4⟩,⟨b1,b2,b3,b4⟩,⟨e,si,o,st,ap⟩,k⟩ s) =
 Tree.all fun hs =>
 .br (anyCy (D.to Int s) (D.to Cy k))
 (.need
 (D.Is Cy k ∧ D.len k ≤ 1048576 ∧ (∀ (c : Cy),List.Mem c (D.to Cy k) → CyOk c) ∧ D.Is Int s ∧ D.len s ≤ 1048576)
 (.need (anyCy (D.to Int s) (D.to Cy k) = true)
 (.need (anyCy (D.to Int s) (D.to Cy k) = true)
 (.need (anyCy (D.to Int s) (D.to Cy k) = true)
 (.need (anyCy (D.to Int s) (D.to Cy k) = true)
 (.need (anyCy (D.to Int s) (D.to Cy k) = true)
 (.need (anyCy (D.to Int s) (D.to Cy k) = true)
 (.need (anyCy (D.to Int s) (D.to Cy k) = true)
 (.need (anyCy (D.to Int s) (D.to Cy k) = true)
 (.need (anyCy (D.to Int s) (D.to Cy k) = true)
 (.need (anyCy (D.to Int s) (D.to Cy k) = true)
 (.need (anyCy (D.to Int s) (D.to Cy k) = true)
 (.need (anyCy (D.to Int s) (D.to Cy k) = true)
 (.need (anyCy (D.to Int s) (D.to Cy k) = true)
 (.need (anyCy (D.to Int s) (D.to Cy k) = true)
 (.need (anyCy (D.to Int s) (D.to Cy k) = true)
 (.ret (.int .i64 3))))))))))))))))))
 (.need
 (D.Is Cy k ∧ D.len k ≤ 1048576 ∧ (∀ (c : Cy),List.Mem c (D.to Cy k) → CyOk c) ∧ D.Is Int s ∧ D.len s ≤ 1048576)
 (.need (anyCy (D.to Int s) (D.to Cy k) = false)
 (.need (anyCy (D.to Int s) (D.to Cy k) = false)
 (.need (anyCy (D.to Int s) (D.to Cy k) = false)
 (.need (anyCy (D.to Int s) (D.to Cy k) = false)
 (.need (anyCy (D.to Int s) (D.to Cy k) = false)
 (.need (anyCy (D.to Int s) (D.to Cy k) = false)
 (.need (D.Is Cy k ∧ D.len k ≤ 1048576)
 (.need (anyCy (D.to Int s) (D.to Cy k) = false)
 (.need (anyCy (D.to Int s) (D.to Cy k) = false)
 (.need (anyCy (D.to Int s) (D.to Cy k) = false)
 (.need (anyCy (D.to Int s) (D.to Cy k) = false)
 (.need (anyCy (D.to Int s) (D.to Cy k) = false)
 (.need (anyCy (D.to Int s) (D.to Cy k) = false)
 (.need (anyCy (D.to Int s) (D.to Cy k) = false)
 (.need
 (D.Is Int (D.like (hs 13 0) (List.map Cy.number (D.to Cy k))) ∧
 D.Is Int o ∧ D.len (D.like (hs 13 0) (List.map Cy.number (D.to Cy k))) ≤ 1048576)
 (.need (anyCy (D.to Int s) (D.to Cy k) = false)
 (.need (anyCy (D.to Int s) (D.to Cy k) = false)
 (.br
 (!decide
 (D.to Int (D.like (hs 13 0) (List.map Cy.number (D.to Cy k))) =
 D.to Int o))
 (.ret (.int .i64 3))
 (.leaf
 (Conf.mk
 (SFrm.mk 58 none none
 [Item.code (cA 58 [1,1,1,1,1,0]),
 Item.code (cA 58 [1,1,1,1,1,1])]
 (mkJ 1 [(0,.ptr 0 0)] 0 157))
 [SFrm.mk 17 (some (oA 17 [1,1,0,0],[4])) (some 27)
 [Item.code (cA 17 [1,1,0,1]),
 Item.code (cA 17 [1,1,1])]
 (mkJ 0 [] 0 29)]
 [(0,
 OBlk.cells 115
 [.int .i64 a1,.int .i64 a2,
 .int .i64 a3,.int .i64 a4,
 .int .i64 b1,.int .i64 b2,
 .int .i64 b3,.int .i64 b4,
 .int .i64 e,.int .i64 si,.dat o,
 .int .i64 st,.int .i64 ap,
 .dat k])]))))))))))))))))))))) := by kernel_rfl
end
def fmE (x : RlD) : Conf := Conf.mk (SFrm.mk 58 none none [Item.code (cA 58 [1,1,1,1,1,0]),Item.code (cA 58 [1,1,1,1,1,1])] (mkJ 1 [(0,.ptr 0 0)] 0 157)) fmK [(0,OBlk.cells 115 (rlCs x))]
def ctFmR : Ctrs := [(103,ctrOf (rdNone.sp spMost)),(102,ctrOf ((rdCy.two rdD).sp spCyCk))]
def rfmL (x : RlD) (a j : Int) : Conf := Conf.mk (SFrm.mk 61 none none [Item.inLoop (cA 61 [1,1,1,1,0,1,0,0]),Item.inBlock 0,Item.code (cA 61 [1,1,1,1,1])] (mkJ 0 [(1,.ptr 0 0),(3,.int .i64 a),(4,.int .i64 j)] 0 118)) [] [(0,OBlk.cells 37 (rlCs x))]
section
variable (d s o k : D) (b : Nat) (j a a1 a2 a3 a4 b1 b2 b3 b4 e si st ap : Int)
theorem fmE_go : exec Try.prog ctFm 300 (fmE ⟨⟨a1,a2,a3,a4⟩,⟨b1,b2,b3,b4⟩,⟨e,si,o,st,ap⟩,k⟩) =
 Tree.all fun hs =>
 .need (D.Is Cy k ∧ D.len k ≤ 1048576)
 (.br (Prod.snd (leadsI (D.to Cy k) ap))
 (.br (!decide (Prod.fst (leadsI (D.to Cy k) ap) ≤ a4)) (.ret (.int .i64 3))
 (.ret (.int .i64 0)))
 (.ret (.int .i64 3))) := by kernel_rfl
theorem rfm_in : exec Try.prog ctFmR 300 (entry Try.prog 61 [.agg [.int .i64 a1,.int .i64 a2,.int .i64 a3,.int .i64 a4,.int .i64 b1,.int .i64 b2,.int .i64 b3,.int .i64 b4,.int .i64 e,.int .i64 si,.dat o,.int .i64 st,.int .i64 ap,.dat k]]) =
 Tree.br (decide (a2 = b2)) (.ret (.lb false))
 (.br (si != b2) (.ret (.lb false))
 (.br (a1 != b1) (.ret (.lb false))
 (.br (a1 != e) (.ret (.lb false))
 (.br (a3 != a4) (.ret (.lb false))
 (.br (b3 != st) (.ret (.lb false))
 (.br (b4 != ap) (.ret (.lb false))
 (.br ((↑(D.len k) : Int) != (↑(D.len o) : Int)) (.ret (.lb false))
 (.leaf
 (Conf.mk
 (SFrm.mk 61 none none
 [Item.inLoop (cA 61 [1,1,1,1,0,1,0,0]),Item.inBlock 0,
 Item.code (cA 61 [1,1,1,1,1])]
 (mkJ 0 [(1,.ptr 0 0),(3,.int .i64 ap),(4,.int .i64 0)] 0 118))
 []
 [(0,
 OBlk.cells 37
 [.int .i64 a1,.int .i64 a2,.int .i64 a3,.int .i64 a4,
 .int .i64 b1,.int .i64 b2,.int .i64 b3,.int .i64 b4,
 .int .i64 e,.int .i64 si,.dat o,.int .i64 st,
 .int .i64 ap,.dat k])]))))))))) := by kernel_rfl
theorem rfm_go : 
 let z1 := (CyD.mk (D.getInt k (Int.toNat j) 0) (D.getInt k (Int.toNat j) 1) (D.getInt k (Int.toNat j) 2) (D.cell k (Int.toNat j) 3) (D.cell k (Int.toNat j) 4))
 exec Try.prog ctFmR 300 (unroll (rfmL ⟨⟨a1,a2,a3,a4⟩,⟨b1,b2,b3,b4⟩,⟨e,si,o,st,ap⟩,k⟩ a j)) =
 Tree.br (decide (j < (↑(D.len k) : Int))) (.need (0 ≤ j ∧ j < (↑(D.len k) : Int) ∧ D.sz k = 5) (.need (D.HasCells k (Int.toNat j) 0 [FT.int .i64,FT.int .i64,FT.int .i64,FT.slc,FT.slc]) (.all fun hs=>.br
 (cyErr (CyD.cy z1) (D.to Int (D.like (hs 1 0) most)) != 0) (.need (CyD.Ok z1 ∧ D.Is Int (D.like (hs 1 0) most) ∧ D.len (D.like (hs 1 0) most) ≤ 1048576) (.need ((cyErr (CyD.cy z1) (D.to Int (D.like (hs 1 0) most)) != 0) = true)
 (.need ((cyErr (CyD.cy z1) (D.to Int (D.like (hs 1 0) most)) != 0) = true) (.need ((cyErr (CyD.cy z1) (D.to Int (D.like (hs 1 0) most)) != 0) = true) (.need ((cyErr (CyD.cy z1) (D.to Int (D.like (hs 1 0) most)) != 0) = true)
 (.need ((cyErr (CyD.cy z1) (D.to Int (D.like (hs 1 0) most)) != 0) = true) (.need ((cyErr (CyD.cy z1) (D.to Int (D.like (hs 1 0) most)) != 0) = true) (.need ((cyErr (CyD.cy z1) (D.to Int (D.like (hs 1 0) most)) != 0) = true)
 (.need ((cyErr (CyD.cy z1) (D.to Int (D.like (hs 1 0) most)) != 0) = true) (.need ((cyErr (CyD.cy z1) (D.to Int (D.like (hs 1 0) most)) != 0) = true) (.need ((cyErr (CyD.cy z1) (D.to Int (D.like (hs 1 0) most)) != 0) = true)
 (.ret (.lb false))))))))))))) (.br (D.getInt k (Int.toNat j) 1 != D.getInt o (Int.toNat j) 0) (.need (CyD.Ok z1 ∧ D.Is Int (D.like (hs 1 0) most) ∧ D.len (D.like (hs 1 0) most) ≤ 1048576) (.need ((cyErr
 (CyD.cy z1) (D.to Int (D.like (hs 1 0) most)) != 0) = false) (.need ((cyErr (CyD.cy z1) (D.to Int (D.like (hs 1 0) most)) != 0) = false) (.need ((cyErr (CyD.cy z1) (D.to Int (D.like (hs 1 0) most)) != 0) = false)
 (.need ((cyErr (CyD.cy z1) (D.to Int (D.like (hs 1 0) most)) != 0) = false) (.need ((cyErr (CyD.cy z1) (D.to Int (D.like (hs 1 0) most)) != 0) = false) (.need ((cyErr (CyD.cy z1) (D.to Int (D.like (hs 1 0) most)) != 0) = false)
 (.need ((cyErr (CyD.cy z1) (D.to Int (D.like (hs 1 0) most)) != 0) = false) (.need (0 ≤ j ∧ j < (↑(D.len o) : Int) ∧ D.sz o = 1) (.need ((cyErr (CyD.cy z1) (D.to Int (D.like (hs 1 0) most)) != 0) = false)
 (.need (D.HasCell o (Int.toNat j) 0 (FT.int .i64)) (.need ((cyErr (CyD.cy z1) (D.to Int (D.like (hs 1 0) most)) != 0) = false) (.need ((cyErr (CyD.cy z1) (D.to Int (D.like (hs 1 0) most)) != 0) = false)
 (.need ((D.getInt k (Int.toNat j) 1 != D.getInt o (Int.toNat j) 0) = true) (.need ((D.getInt k (Int.toNat j) 1 != D.getInt o (Int.toNat j) 0) = true) (.need ((D.getInt k (Int.toNat j) 1 != D.getInt o (Int.toNat j) 0) = true)
 (.need ((D.getInt k (Int.toNat j) 1 != D.getInt o (Int.toNat j) 0) = true) (.need ((D.getInt k (Int.toNat j) 1 != D.getInt o (Int.toNat j) 0) = true) (.ret (.lb false)))))))))))))))))))) (.need (CyD.Ok z1 ∧ D.Is Int
 (D.like (hs 1 0) most) ∧ D.len (D.like (hs 1 0) most) ≤ 1048576) (.need ((cyErr (CyD.cy z1) (D.to Int (D.like (hs 1 0) most)) != 0) = false) (.need ((cyErr (CyD.cy z1) (D.to Int (D.like (hs 1 0) most)) != 0) = false)
 (.need ((cyErr (CyD.cy z1) (D.to Int (D.like (hs 1 0) most)) != 0) = false) (.need ((cyErr (CyD.cy z1) (D.to Int (D.like (hs 1 0) most)) != 0) = false) (.need ((cyErr (CyD.cy z1) (D.to Int (D.like (hs 1 0) most)) != 0) = false)
 (.need ((cyErr (CyD.cy z1) (D.to Int (D.like (hs 1 0) most)) != 0) = false) (.need ((cyErr (CyD.cy z1) (D.to Int (D.like (hs 1 0) most)) != 0) = false) (.need (0 ≤ j ∧ j < (↑(D.len o) : Int) ∧ D.sz o = 1)
 (.need ((cyErr (CyD.cy z1) (D.to Int (D.like (hs 1 0) most)) != 0) = false) (.need (D.HasCell o (Int.toNat j) 0 (FT.int .i64)) (.need ((cyErr (CyD.cy z1) (D.to Int (D.like (hs 1 0) most)) != 0) = false)
 (.need ((cyErr (CyD.cy z1) (D.to Int (D.like (hs 1 0) most)) != 0) = false) (.need ((D.getInt k (Int.toNat j) 1 != D.getInt o (Int.toNat j) 0) = false) (.need ((D.getInt k (Int.toNat j) 1 != D.getInt o
 (Int.toNat j) 0) = false) (.need ((D.getInt k (Int.toNat j) 1 != D.getInt o (Int.toNat j) 0) = false) (.need ((D.getInt k (Int.toNat j) 1 != D.getInt o (Int.toNat j) 0) = false) (.need ((D.getInt k (Int.toNat j) 1 != D.getInt o
 (Int.toNat j) 0) = false) (.br (decide (D.getInt k (Int.toNat j) 0 > a)) (.ret (.lb false)) (.leaf (Conf.mk (SFrm.mk 61 none none [Item.inLoop (cA 61 [1,1,1,1,0,1,0,0]),Item.inBlock 0,Item.code
 (cA 61 [1,1,1,1,1])] (mkJ 0 [(1,.ptr 0 0),(3,.int .i64 (D.getInt k (Int.toNat j) 1)),(4,.int .i64 (IntKind.wrap .i64 (j + 1)))] 0 118)) [] [(0,OBlk.cells 37 [.int .i64 a1,.int .i64 a2,.int .i64 a3,.int .i64 a4,.int .i64 b1,.int .i64 b2,.int .i64 b3,.int .i64 b4,.int .i64 e,.int .i64 si,.dat o,.int .i64 st,.int .i64 ap,.dat k])])))))))))))))))))))))))))
 (.ret (.bool (decide (a ≤ a4)))) := by
 intros; kernel_rfl
end
end Sv
end
noncomputable section
open Go Go.Proofs Sx
namespace Sx
def fmRes (r : Rl) : Int := if formedR r = false then 3 else 0
theorem fmRes_bad {r : Rl} (h : formedR r = false) : fmRes r = 3 := by unfold fmRes; rw [if_pos h]
theorem fmRes_ok {r : Rl} (h : formedR r = true) : fmRes r = 0 := by unfold fmRes; rw [h]; rfl
def spFmR (x : RlD) : SpecR := .scalar [x.Ok] (.bool (formedR x.rl))
end Sx
namespace Sv
section
variable {H : HV} {w : World} {a1 a2 a3 a4 b1 b2 b3 b4 e si st ap : Int} {o k : D}
theorem fmE_runs (hx : RlD.Ok ⟨⟨a1,a2,a3,a4⟩,⟨b1,b2,b3,b4⟩,⟨e,si,o,st,ap⟩,k⟩) (hcs : Ctrs.Ok Try.prog ctFm)
  (h : formedR (RlD.rl ⟨⟨a1,a2,a3,a4⟩,⟨b1,b2,b3,b4⟩,⟨e,si,o,st,ap⟩,k⟩) = ((leadsI (k.to Cy) ap).2 && decide ((leadsI (k.to Cy) ap).1 ≤ a4))) :
  Runs Try.prog ⟨w,H⟩ (fmE ⟨⟨a1,a2,a3,a4⟩,⟨b1,b2,b3,b4⟩,⟨e,si,o,st,ap⟩,k⟩) (RetS w H (.int .i64 (fmRes (RlD.rl ⟨⟨a1,a2,a3,a4⟩,⟨b1,b2,b3,b4⟩,⟨e,si,o,st,ap⟩,k⟩)))) := by
 obtain ⟨h1,h2,h3,h4,h5⟩ := hx
 apply exec_sound hcs 300
 rw [fmE_go]
 refine fun hs=>⟨⟨h2,h4⟩,fun c1=>⟨fun c2=>ret_int (fmRes_bad ?_).symm,fun c2=>ret_int (fmRes_ok ?_).symm⟩,fun c1=>ret_int (fmRes_bad ?_).symm⟩
 ·rw [h,c1]; simpa using c2
 ·rw [h,c1]; simpa using c2
 ·rw [h,c1]; rfl
theorem fmD_runs {s : D} (hx : RlD.Ok ⟨⟨a1,a2,a3,a4⟩,⟨b1,b2,b3,b4⟩,⟨e,si,o,st,ap⟩,k⟩) (hcs : Ctrs.Ok Try.prog ctFm) (hs : s.Is Int) (hto : s.to Int = most)
  (h : formedR (RlD.rl ⟨⟨a1,a2,a3,a4⟩,⟨b1,b2,b3,b4⟩,⟨e,si,o,st,ap⟩,k⟩) = (!anyCy most (k.to Cy) && decide ((k.to Cy).map Cy.number = o.to Int) && (leadsI (k.to Cy) ap).2 && decide ((leadsI (k.to Cy) ap).1 ≤ a4))) :
  Runs Try.prog ⟨w,H⟩ (fmD ⟨⟨a1,a2,a3,a4⟩,⟨b1,b2,b3,b4⟩,⟨e,si,o,st,ap⟩,k⟩ s) (RetS w H (.int .i64 (fmRes (RlD.rl ⟨⟨a1,a2,a3,a4⟩,⟨b1,b2,b3,b4⟩,⟨e,si,o,st,ap⟩,k⟩)))) := by
 have hx' := hx
 obtain ⟨h1,h2,h3,h4,h5⟩ := hx
 have sl : s.len ≤ 1048576 := by rw [D.Is.length (α := Int),hto]; decide
 apply goS_sound hcs (fun _=>false) fmS 300
 rw [fmD_go,hto]
 have kl := D.Is.length (α := Cy) k
 have n1 : k.Is Cy ∧ k.len ≤ 1048576 ∧ (∀ c,List.Mem c (k.to Cy) → CyOk c) ∧ s.Is Int ∧ s.len ≤ 1048576 := ⟨h2,h4,fun c hc=>h5 c hc,hs,sl⟩
 have n2 : k.Is Cy ∧ k.len ≤ 1048576 := ⟨h2,h4⟩
 refine fun hs=>⟨fun c1=>?_,fun c1=>?_⟩
 ·repeat refine holds_need.2 ⟨by assumption,?_⟩
  exact ret_int (fmRes_bad (by rw [h,c1]; rfl)).symm
 ·have n3 : (D.like (hs 13 0) ((k.to Cy).map Cy.number)).Is Int ∧ o.Is Int ∧ (D.like (hs 13 0) ((k.to Cy).map Cy.number)).len ≤ 1048576 := ⟨D.like_is _ _,h1,by rw [D.Is.length (α := Int),D.like_to,List.length_map]; omega⟩
  repeat refine holds_need.2 ⟨by assumption,?_⟩
  rw [D.like_to]
  refine ⟨fun c2=>ret_int (fmRes_bad ?_).symm,fun c2=>fmE_runs hx' hcs ?_⟩
  ·have c2 : ¬((k.to Cy).map Cy.number = o.to Int) := by simpa using c2
   rw [h,c1,decide_eq_false c2]; rfl
  ·have c2 : (k.to Cy).map Cy.number = o.to Int := by simpa using c2
   rw [h,c1,decide_eq_true c2]; rfl
theorem fmC_runs (hx : RlD.Ok ⟨⟨a1,a2,a3,a4⟩,⟨b1,b2,b3,b4⟩,⟨e,si,o,st,ap⟩,k⟩) (hcs : Ctrs.Ok Try.prog ctFm)
  (h : formedR (RlD.rl ⟨⟨a1,a2,a3,a4⟩,⟨b1,b2,b3,b4⟩,⟨e,si,o,st,ap⟩,k⟩) = (!anyCy most (k.to Cy) && decide ((k.to Cy).map Cy.number = o.to Int) && (leadsI (k.to Cy) ap).2 && decide ((leadsI (k.to Cy) ap).1 ≤ a4))) :
  Runs Try.prog ⟨w,H⟩ (fmC ⟨⟨a1,a2,a3,a4⟩,⟨b1,b2,b3,b4⟩,⟨e,si,o,st,ap⟩,k⟩) (RetS w H (.int .i64 (fmRes (RlD.rl ⟨⟨a1,a2,a3,a4⟩,⟨b1,b2,b3,b4⟩,⟨e,si,o,st,ap⟩,k⟩)))) := by
 apply goS_sound hcs (fun _=>false) fmS 300
 rw [fmC_go]
 exact fun hs=>fmD_runs hx hcs (D.like_is (hs 0 0) most) (D.like_to _ _) h
theorem fmB_runs (hx : RlD.Ok ⟨⟨a1,a2,a3,a4⟩,⟨b1,b2,b3,b4⟩,⟨e,si,o,st,ap⟩,k⟩) (hcs : Ctrs.Ok Try.prog ctFm)
  (h : formedR (RlD.rl ⟨⟨a1,a2,a3,a4⟩,⟨b1,b2,b3,b4⟩,⟨e,si,o,st,ap⟩,k⟩) = (!(decide (a3 ≠ a4) || decide (b3 ≠ st) || decide (b4 ≠ ap)) && (!anyCy most (k.to Cy) && decide ((k.to Cy).map Cy.number = o.to Int) && (leadsI (k.to Cy) ap).2 && decide ((leadsI (k.to Cy) ap).1 ≤ a4)))) :
  Runs Try.prog ⟨w,H⟩ (fmB ⟨⟨a1,a2,a3,a4⟩,⟨b1,b2,b3,b4⟩,⟨e,si,o,st,ap⟩,k⟩) (RetS w H (.int .i64 (fmRes (RlD.rl ⟨⟨a1,a2,a3,a4⟩,⟨b1,b2,b3,b4⟩,⟨e,si,o,st,ap⟩,k⟩)))) := by
 apply goS_sound hcs (fun _=>false) fmS 300
 rw [fmB_go]
 refine fun hs=>⟨fun c1=>?_,fun c1=>⟨fun c2=>?_,fun c2=>?_⟩⟩
 ·repeat refine holds_need.2 ⟨by assumption,?_⟩
  have c1 : a3 ≠ a4 := by simpa using c1
  exact ret_int (fmRes_bad (by rw [h,decide_eq_true c1]; rfl)).symm
 ·repeat refine holds_need.2 ⟨by assumption,?_⟩
  have c2 : b3 ≠ st := by simpa using c2
  exact ret_int (fmRes_bad (by rw [h,decide_eq_true c2,Bool.or_true]; rfl)).symm
 ·repeat refine holds_need.2 ⟨by assumption,?_⟩
  have c1 : ¬a3 ≠ a4 := by simpa using c1
  have c2 : ¬b3 ≠ st := by simpa using c2
  refine ⟨fun c3=>?_,fun c3=>fmC_runs hx hcs ?_⟩
  ·have c3 : b4 ≠ ap := by simpa using c3
   exact ret_int (fmRes_bad (by rw [h,decide_eq_true c3,Bool.or_true]; rfl)).symm
  ·have c3 : ¬b4 ≠ ap := by simpa using c3
   rw [h,decide_eq_false c1,decide_eq_false c2,decide_eq_false c3]; rfl
theorem formed_eq : formedR (RlD.rl ⟨⟨a1,a2,a3,a4⟩,⟨b1,b2,b3,b4⟩,⟨e,si,o,st,ap⟩,k⟩) = (!(decide (a2 = b2) || decide (si ≠ b2) || decide (a1 ≠ b1) || decide (a1 ≠ e)) && (!(decide (a3 ≠ a4) || decide (b3 ≠ st) || decide (b4 ≠ ap)) && (!anyCy most (k.to Cy) && decide ((k.to Cy).map Cy.number = o.to Int) && (leadsI (k.to Cy) ap).2 && decide ((leadsI (k.to Cy) ap).1 ≤ a4)))) := by
 have e : (!anyCy most (k.to Cy)) = ((k.to Cy).all fun c=>decide (cyErr c most = 0)) := by
  unfold anyCy
  rw [List.not_any_eq_all_not]
  congr 1; funext c
  by_cases h : cyErr c most = 0 <;> simp [h]
 rw [e]
 simp only [formedR,RlD.rl,SrcD.src,Bool.and_assoc]
 rfl
theorem fmA_runs (hx : RlD.Ok ⟨⟨a1,a2,a3,a4⟩,⟨b1,b2,b3,b4⟩,⟨e,si,o,st,ap⟩,k⟩) (hcs : Ctrs.Ok Try.prog ctFm) :
  Runs Try.prog ⟨w,H⟩ (fmA ⟨⟨a1,a2,a3,a4⟩,⟨b1,b2,b3,b4⟩,⟨e,si,o,st,ap⟩,k⟩) (RetS w H (.int .i64 (fmRes (RlD.rl ⟨⟨a1,a2,a3,a4⟩,⟨b1,b2,b3,b4⟩,⟨e,si,o,st,ap⟩,k⟩)))) := by
 have h := formed_eq (a1 := a1) (a2 := a2) (a3 := a3) (a4 := a4) (b1 := b1) (b2 := b2) (b3 := b3) (b4 := b4) (e := e) (si := si) (st := st) (ap := ap) (o := o) (k := k)
 apply goS_sound hcs (fun _=>false) fmS 300
 rw [fmA_go]
 refine fun hs=>⟨fun c1=>?_,fun c1=>⟨fun c2=>?_,fun c2=>⟨fun c3=>?_,fun c3=>?_⟩⟩⟩
 ·repeat refine holds_need.2 ⟨by assumption,?_⟩
  exact ret_int (fmRes_bad (by rw [h,c1]; rfl)).symm
 ·repeat refine holds_need.2 ⟨by assumption,?_⟩
  have c2 : si ≠ b2 := by simpa using c2
  exact ret_int (fmRes_bad (by rw [h,decide_eq_true c2,Bool.or_true]; rfl)).symm
 ·repeat refine holds_need.2 ⟨by assumption,?_⟩
  have c3 : a1 ≠ b1 := by simpa using c3
  exact ret_int (fmRes_bad (by rw [h,decide_eq_true c3,Bool.or_true]; rfl)).symm
 ·repeat refine holds_need.2 ⟨by assumption,?_⟩
  have c2 : ¬si ≠ b2 := by simpa using c2
  have c3 : ¬a1 ≠ b1 := by simpa using c3
  refine ⟨fun c4=>?_,fun c4=>fmB_runs hx hcs ?_⟩
  ·have c4 : a1 ≠ e := by simpa using c4
   exact ret_int (fmRes_bad (by rw [h,decide_eq_true c4,Bool.or_true]; rfl)).symm
  ·have c4 : ¬a1 ≠ e := by simpa using c4
   rw [h,c1,decide_eq_false c2,decide_eq_false c3,decide_eq_false c4]; rfl
theorem rfm_false {j : Nat} (hk : k.Is Cy) (ho : o.Is Int) (hj : j < (k.to Cy).length) (hl : (k.to Cy).length = (o.to Int).length) {a : Int} (hpre : leadsI ((k.to Cy).take j) ap = (a,true))
  (hbad : cyErr (k.to Cy)[j] most ≠ 0 ∨ ((k.to Cy)[j]).number ≠ (o.to Int)[j] ∨ ((k.to Cy)[j]).base > a) :
  (!anyCy most (k.to Cy) && decide ((k.to Cy).map Cy.number = o.to Int) && (leadsI (k.to Cy) ap).2 && decide ((leadsI (k.to Cy) ap).1 ≤ a4)) = false := by
 rcases hbad with h | h | h
 ·rw [anyCy_cut hj h]; rfl
 ·have : ¬((k.to Cy).map Cy.number = o.to Int) := fun e=>h (by
   have := congrArg (fun l=>l[j]?) e
   simp only [List.getElem?_map,List.getElem?_eq_getElem hj,List.getElem?_eq_getElem (hl ▸ hj),Option.map_some,Option.some.injEq] at this
   exact this)
  rw [decide_eq_false this,Bool.and_false]; rfl
 ·have sn : leadsI ((k.to Cy).take (j + 1)) ap = (((k.to Cy)[j]).number,false) := by
   rw [List.take_succ_eq_append_getElem hj,leads_snoc,hpre,if_pos rfl]
   simp [h]
  have : (leadsI (k.to Cy) ap).2 = false := by rw [leads_cut (j := j + 1) (by rw [sn]),sn]
  rw [this,Bool.and_false]; rfl
end
theorem ctFmROk : Ctrs.Ok Try.prog ctFmR := by
 intro x hx
 simp only [ctFmR,List.mem_cons,List.not_mem_nil,or_false] at hx
 rcases hx with rfl | rfl
 ·exact ctrOf_ok lawMostR
 ·exact ctrOf_ok lawCyCkR
theorem lawFmR : Law Try.prog 61 (rdRl.one.sp spFmR) := by
 refine law_in _ (by kernel_rfl) fun H w ⟨⟨a1,a2,a3,a4⟩,⟨b1,b2,b3,b4⟩,⟨e,si,o,st,ap⟩,k⟩ hok hp=>?_
 obtain ⟨h1,h2,h3,h4,h5⟩ := hp _ (List.mem_singleton.2 rfl)
 simp only at h1 h2 h3 h4 h5
 have h := formed_eq (a1 := a1) (a2 := a2) (a3 := a3) (a4 := a4) (b1 := b1) (b2 := b2) (b3 := b3) (b4 := b4) (e := e) (si := si) (st := st) (ap := ap) (o := o) (k := k)
 have kl := D.Is.length (α := Cy) k
 have ol := D.Is.length (α := Int) o
 apply exec_sound ctFmROk 300
 rw [show rdRl.one.canon ⟨⟨a1,a2,a3,a4⟩,⟨b1,b2,b3,b4⟩,⟨e,si,o,st,ap⟩,k⟩ = [.agg [.int .i64 a1,.int .i64 a2,.int .i64 a3,.int .i64 a4,.int .i64 b1,.int .i64 b2,.int .i64 b3,.int .i64 b4,.int .i64 e,.int .i64 si,.dat o,.int .i64 st,.int .i64 ap,.dat k]] from rfl,rfm_in]
 refine ⟨fun c1=>ret_lb (by rw [h,c1]; rfl),fun c1=>⟨fun c2=>ret_lb ?_,fun c2=>⟨fun c3=>ret_lb ?_,fun c3=>⟨fun c4=>ret_lb ?_,fun c4=>⟨fun c5=>ret_lb ?_,fun c5=>⟨fun c6=>ret_lb ?_,fun c6=>⟨fun c7=>ret_lb ?_,fun c7=>⟨fun c8=>ret_lb ?_,fun c8=>?_⟩⟩⟩⟩⟩⟩⟩⟩
 ·have c2 : si ≠ b2 := by simpa using c2
  rw [h,decide_eq_true c2,Bool.or_true]; rfl
 ·have c3 : a1 ≠ b1 := by simpa using c3
  rw [h,decide_eq_true c3,Bool.or_true]; rfl
 ·have c4 : a1 ≠ e := by simpa using c4
  rw [h,decide_eq_true c4,Bool.or_true]; rfl
 ·have c5 : a3 ≠ a4 := by simpa using c5
  rw [h,decide_eq_true c5,Bool.true_or,Bool.true_or,Bool.not_true,Bool.false_and,Bool.and_false]
 ·have c6 : b3 ≠ st := by simpa using c6
  rw [h,decide_eq_true c6,Bool.or_true,Bool.true_or,Bool.not_true,Bool.false_and,Bool.and_false]
 ·have c7 : b4 ≠ ap := by simpa using c7
  rw [h,decide_eq_true c7,Bool.or_true,Bool.not_true,Bool.false_and,Bool.and_false]
 ·have c8 : (k.len : Int) ≠ (o.len : Int) := by simpa using c8
  have : ¬((k.to Cy).map Cy.number = o.to Int) := fun e=>c8 (by rw [kl,ol,← e,List.length_map])
  rw [h,decide_eq_false this,Bool.and_false,Bool.false_and,Bool.false_and,Bool.and_false,Bool.and_false]
 have c2 : ¬si ≠ b2 := by simpa using c2
 have c3 : ¬a1 ≠ b1 := by simpa using c3
 have c4 : ¬a1 ≠ e := by simpa using c4
 have c5 : ¬a3 ≠ a4 := by simpa using c5
 have c6 : ¬b3 ≠ st := by simpa using c6
 have c7 : ¬b4 ≠ ap := by simpa using c7
 have c8 : (k.to Cy).length = (o.to Int).length := by
  have : (k.len : Int) = (o.len : Int) := by simpa using c8
  omega
 have h : formedR (RlD.rl ⟨⟨a1,a2,a3,a4⟩,⟨b1,b2,b3,b4⟩,⟨e,si,o,st,ap⟩,k⟩) = (!anyCy most (k.to Cy) && decide ((k.to Cy).map Cy.number = o.to Int) && (leadsI (k.to Cy) ap).2 && decide ((leadsI (k.to Cy) ap).1 ≤ a4)) := by
  rw [h,c1,decide_eq_false c2,decide_eq_false c3,decide_eq_false c4,decide_eq_false c5,decide_eq_false c6,decide_eq_false c7]; rfl
 show Runs Try.prog ⟨w,H⟩ (rfmL ⟨⟨a1,a2,a3,a4⟩,⟨b1,b2,b3,b4⟩,⟨e,si,o,st,ap⟩,k⟩ ap ((0 : Nat) : Int)) (RetS w H (.bool (formedR (RlD.rl ⟨⟨a1,a2,a3,a4⟩,⟨b1,b2,b3,b4⟩,⟨e,si,o,st,ap⟩,k⟩))))
 rw [h]
 refine runs_loop (fun p : Int × Nat=>rfmL ⟨⟨a1,a2,a3,a4⟩,⟨b1,b2,b3,b4⟩,⟨e,si,o,st,ap⟩,k⟩ p.1 (p.2 : Int)) (fun p=>p.2 ≤ (k.to Cy).length ∧ leadsI ((k.to Cy).take p.2) ap = (p.1,true) ∧ anyCy most ((k.to Cy).take p.2) = false ∧ ((k.to Cy).take p.2).map Cy.number = (o.to Int).take p.2) (fun p=>(k.to Cy).length - p.2) (fun _=>rfl) ?_ (ap,0) ⟨Nat.zero_le _,rfl,rfl,rfl⟩
 rintro ⟨a,j⟩ ⟨hj,p1,p2,p3⟩ ih
 simp only at hj p1 p2 p3
 apply exec_sound ctFmROk 300
 rw [rfm_go]
 refine ⟨fun hc=>?_,fun hc=>ret_bool ?_⟩
 ·have hc : j < (k.to Cy).length := by have := of_decide_eq_true hc; omega
  obtain ⟨q1,q2,q3,q4⟩ := cy_cell h2 hc
  obtain ⟨r1,r2,r3⟩ := int_at h1 (c8 ▸ hc)
  have n0 : 0 ≤ (j : Int) ∧ (j : Int) < (k.len : Int) ∧ k.sz = 5 := ⟨by omega,by omega,h2.size hc⟩
  refine ⟨n0,q1,fun hs=>?_⟩
  have n1 : CyD.Ok (CyD.mk (k.getInt (Int.toNat (j : Int)) 0) (k.getInt (Int.toNat (j : Int)) 1) (k.getInt (Int.toNat (j : Int)) 2) (k.cell (Int.toNat (j : Int)) 3) (k.cell (Int.toNat (j : Int)) 4)) ∧ (D.like (hs 1 0) most).Is Int ∧ (D.like (hs 1 0) most).len ≤ 1048576 :=
   ⟨cyD_ok h2 h5 hc,D.like_is _ _,by rw [D.Is.length (α := Int),D.like_to]; decide⟩
  have en : k.getInt (Int.toNat (j : Int)) 1 = ((k.to Cy)[j]).number := by rw [q4]; rfl
  have eb : k.getInt (Int.toNat (j : Int)) 0 = ((k.to Cy)[j]).base := by rw [q4]; rfl
  have eo : o.getInt (Int.toNat (j : Int)) 0 = (o.to Int)[j]'(c8 ▸ hc) := r3
  have ec : CyD.cy (CyD.mk (k.getInt (Int.toNat (j : Int)) 0) (k.getInt (Int.toNat (j : Int)) 1) (k.getInt (Int.toNat (j : Int)) 2) (k.cell (Int.toNat (j : Int)) 3) (k.cell (Int.toNat (j : Int)) 4)) = (k.to Cy)[j] := q4.symm
  have tk : (k.to Cy).take (j + 1) = (k.to Cy).take j ++ [(k.to Cy)[j]] := List.take_succ_eq_append_getElem hc
  simp only [D.like_to,ec]
  refine ⟨fun x1=>?_,fun x1=>⟨fun x2=>?_,fun x2=>?_⟩⟩
  ·repeat refine holds_need.2 ⟨by assumption,?_⟩
   have x1 : cyErr (k.to Cy)[j] most ≠ 0 := by simpa using x1
   exact ret_lb (rfm_false h2 h1 hc c8 p1 (.inl x1)).symm
  ·repeat refine holds_need.2 ⟨by assumption,?_⟩
   rw [en,eo] at x2
   have x2 : ((k.to Cy)[j]).number ≠ (o.to Int)[j]'(c8 ▸ hc) := by simpa using x2
   exact ret_lb (rfm_false h2 h1 hc c8 p1 (.inr (.inl x2))).symm
  ·repeat refine holds_need.2 ⟨by first | assumption | exact ⟨r1,r2⟩ | exact r1 | exact r2,?_⟩
   rw [en,eo] at x2
   have x1 : cyErr (k.to Cy)[j] most = 0 := by simpa using x1
   have x2 : ((k.to Cy)[j]).number = (o.to Int)[j]'(c8 ▸ hc) := by simpa using x2
   rw [eb]
   refine ⟨fun x3=>ret_lb ?_,fun x3=>?_⟩
   ·have x3 : ((k.to Cy)[j]).base > a := of_decide_eq_true x3
    exact (rfm_false h2 h1 hc c8 p1 (.inr (.inr x3))).symm
   ·have x3 : ¬((k.to Cy)[j]).base > a := of_decide_eq_false x3
    have := ih (((k.to Cy)[j]).number,j + 1) ⟨hc,?_,?_,?_⟩ (by simp only; omega)
    ·simp only at this
     rw [← wrap_succ hc (by omega),← en] at this
     exact this
    ·rw [tk,leads_snoc,p1,if_pos rfl,decide_eq_false x3]; rfl
    ·rw [tk,anyCy_snoc,p2,x1]; rfl
    ·rw [tk,List.map_append,p3,List.take_succ_eq_append_getElem (c8 ▸ hc),← x2]; rfl
 ·have : j = (k.to Cy).length := by have := of_decide_eq_false hc; omega
  subst this
  rw [List.take_length] at p1 p2 p3
  rw [c8,List.take_length] at p3
  rw [p1,p2,decide_eq_true p3]; rfl
end Sv
end
noncomputable section
open Go Go.Proofs Sx
namespace Sv
def ctCkR : Ctrs := [(59,ctrOf (rdTgt.one.sp spCT)),(60,ctrOf (rdSrc.one.sp spCS)),(61,ctrOf (rdRl.one.sp spFmR))]
def ctNw : Ctrs := [(48,ctrOf ((rdInt.three rdInt rdInt).sp spNewT32)),(49,ctrOf ((rdInt.three rdInt rdInt).sp spNewS))
 , (50,ctrOf ((rdInt.three rdInt rdInt).sp spNewT32)),(51,ctrOf ((rdInt.three rdInt rdInt).sp spNewS))
 ]
def ctLg : Ctrs := [(17,ctrOf (rdRl.one.sp spCkRl)),(18,ctrOf (rdRl.one.sp spCkRl))]
section
variable (d s o k : D) (b : Nat) (j a a1 a2 a3 a4 b1 b2 b3 b4 e si st ap : Int)
theorem ckR_in : exec Try.prog ctCkR 300 (entry Try.prog 18 [.agg [.int .i64 a1,.int .i64 a2,.int .i64 a3,.int .i64 a4,.int .i64 b1,.int .i64 b2,.int .i64 b3,.int .i64 b4,.int .i64 e,.int .i64 si,.dat o,.int .i64 st,.int .i64 ap,.dat k]]) =
 Tree.br (checkTarget (Tgt.mk a1 a2 a3 a4) != 0) (.ret (.int .i64 (checkTarget (Tgt.mk a1 a2 a3 a4))))
 (.br (checkTarget (Tgt.mk b1 b2 b3 b4) != 0) (.ret (.int .i64 (checkTarget (Tgt.mk b1 b2 b3 b4))))
 (.need (D.Is Int o)
 (.br (checkSource (SrcD.src (SrcD.mk e si o st ap)) != 0)
 (.ret (.int .i64 (checkSource (SrcD.src (SrcD.mk e si o st ap)))))
 (.need (RlD.Ok (RlD.mk (Tgt.mk a1 a2 a3 a4) (Tgt.mk b1 b2 b3 b4) (SrcD.mk e si o st ap) k))
 (.br (!formedR (RlD.rl (RlD.mk (Tgt.mk a1 a2 a3 a4) (Tgt.mk b1 b2 b3 b4) (SrcD.mk e si o st ap) k)))
 (.ret (.int .i64 3)) (.ret (.int .i64 0))))))) := by kernel_rfl
theorem nw_in : exec Try.prog ctNw 300 (entry Try.prog 14 [.int .i64 a1,.int .i64 a2,.int .i64 a3,.int .i64 a4]) =
 Tree.all fun hs =>
 .br (Prod.snd (newTarget a1 a2 a4) != 0)
 (.ret
 (SV.tup
 [.agg
 [.int .i64 0,.int .i64 0,.int .i64 0,.int .i64 0,
 .int .i64 0,.int .i64 0,.int .i64 0,.int .i64 0,
 .int .i64 0,.int .i64 0,.nils,.int .i64 0,.int .i64 0,.nils],
 .int .i64 (Prod.snd (newTarget a1 a2 a4))]))
 (.all fun hs =>
 .br (Prod.snd (newTarget a1 a3 a4) != 0)
 (.ret
 (SV.tup
 [.agg
 [.int .i64 0,.int .i64 0,.int .i64 0,.int .i64 0,
 .int .i64 0,.int .i64 0,.int .i64 0,.int .i64 0,
 .int .i64 0,.int .i64 0,.nils,.int .i64 0,.int .i64 0,
 .nils],
 .int .i64 (Prod.snd (newTarget a1 a3 a4))]))
 (.br (decide (a2 = a3))
 (.ret
 (SV.tup
 [.agg
 [.int .i64 0,.int .i64 0,.int .i64 0,.int .i64 0,
 .int .i64 0,.int .i64 0,.int .i64 0,.int .i64 0,
 .int .i64 0,.int .i64 0,.nils,.int .i64 0,.int .i64 0,
 .nils],
 .int .i64 1]))
 (.all fun hs =>
 .ret
 (SV.tup
 [.agg
 [.int .i64 (Tgt.epoch (Prod.fst (newTarget a1 a2 a4))),
 .int .i64 (Tgt.site (Prod.fst (newTarget a1 a2 a4))),
 .int .i64 (Tgt.stored (Prod.fst (newTarget a1 a2 a4))),
 .int .i64 (Tgt.applied (Prod.fst (newTarget a1 a2 a4))),
 .int .i64 (Tgt.epoch (Prod.fst (newTarget a1 a3 a4))),
 .int .i64 (Tgt.site (Prod.fst (newTarget a1 a3 a4))),
 .int .i64 (Tgt.stored (Prod.fst (newTarget a1 a3 a4))),
 .int .i64 (Tgt.applied (Prod.fst (newTarget a1 a3 a4))),
 .int .i64 (Src.epoch (Prod.fst (newSource a1 a3 a4))),
 .int .i64 (Src.site (Prod.fst (newSource a1 a3 a4))),
 .dat (D.like (hs 0 0) (Src.offered (Prod.fst (newSource a1 a3 a4)))),
 .int .i64 (Src.stored (Prod.fst (newSource a1 a3 a4))),
 .int .i64 (Src.applied (Prod.fst (newSource a1 a3 a4))),.nils],
 .int .i64 (Prod.snd (newSource a1 a3 a4))])))) := by kernel_rfl
theorem lg_in : exec Try.prog ctLg 300 (entry Try.prog 19 [.agg [.int .i64 a1,.int .i64 a2,.int .i64 a3,.int .i64 a4,.int .i64 b1,.int .i64 b2,.int .i64 b3,.int .i64 b4,.int .i64 e,.int .i64 si,.dat o,.int .i64 st,.int .i64 ap,.dat k]]) =
 Tree.need (RlD.Ok (RlD.mk (Tgt.mk a1 a2 a3 a4) (Tgt.mk b1 b2 b3 b4) (SrcD.mk e si o st ap) k))
 (.br (ckRl (RlD.rl (RlD.mk (Tgt.mk a1 a2 a3 a4) (Tgt.mk b1 b2 b3 b4) (SrcD.mk e si o st ap) k)) != 0)
 (.ret (.int .i64 0)) (.ret (.int .i64 (IntKind.wrap .i64 (a4 - b4))))) := by kernel_rfl
end
end Sv
end
noncomputable section
namespace Sx
open Go RowKit
section
variable {α : Type} [Codec α]
def rblk (d : D) : Nat := d.addr.block
structure RowW (α : Type) [Codec α] (n : Nat) (H : HV) (w : World) (d : D) : Prop where
 is : d.Is α
 ok : d.Ok H
 ne : d.rows ≠ []
 hd : ∃ c,d.hd = some (⟨rblk d,0,none⟩,c)
 low : n ≤ rblk d
 live : ∃ cur t,w.heap[rblk d]? = some (.cells cur t (0,0))
theorem RowW.mono {n : Nat} {H H' : HV} {w w' : World} {d : D} (h : RowW α n H w d) (a : After w H w' H') : RowW α n H' w' d :=
 ⟨h.is,h.ok.mono a.le,h.ne,h.hd,h.low,by
  obtain ⟨cur,t,hg⟩ := h.live
  exact ⟨cur,t,by rw [a.below.block _ (Array.getElem?_eq_some_iff.1 hg).1]; exact hg⟩⟩
def D.putRow (d : D) (s : Nat) (rs : List (List D)) : D := .slc d.hd d.sz (d.rows.take s ++ rs ++ d.rows.drop (s + rs.length))
theorem pub_row {w w1 : World} {H H1 : HV} {m : Mem} {E : Env} {k : Nat} {e : TypeId} {d : D} (g : Good ⟨w,H⟩ m E H1 w1) (hg : m.get k = some (.arr e d)) (hs : d.Is α) (hne : d.rows ≠ []) :
  ∃ H2,After w H w1 H2 ∧ HLe H1 H2 ∧ RowW α w.heap.size H2 w1 d ∧ (SV.vec k).den E = d.val := by
 obtain ⟨H2,hle,g2,hok,_⟩ := g.publish hg
 obtain ⟨h,sz,rows,rfl,hv,how,_,_,ha⟩ := g.own k _ (Mem.get_mem hg)
 refine ⟨H2,after_good g2,hle,?_,by simp only [SV.den,hv]; rfl⟩
 rcases how.2 with ⟨h1,h0⟩ | ⟨gg,cap,cur,h1,h2,h3,_⟩
 ·exact absurd (List.length_eq_zero_iff.1 h0) hne
 ·cases h with
  | none=>simp [D.val,hval] at h1
  | some ac =>
   obtain ⟨a,c⟩ := ac
   simp only [D.val,hval,Value.slice.injEq,Option.some.injEq] at h1
   obtain ⟨rfl,_,rfl⟩ := h1
   exact ⟨hs,hok,hne,⟨c,rfl⟩,h2,cur,_,h3⟩
def Flat (α : Type) [Codec α] : Prop := ∀ r : List D,Codec.ok α r → r.length = Codec.sz α ∧ ∀ x,x ∈ r → ∀ H : HV,x.Ok H
theorem flat_int : Flat Int := by
 rintro r ⟨n,rfl⟩
 exact ⟨rfl,fun x hx H=>by rw [List.mem_singleton.1 hx]; exact .int _ _⟩
theorem RowW.put {n : Nat} {H : HV} {w : World} {d : D} (h : RowW α n H w d) (hf : Flat α) {s : Nat} {rs : List (List D)} (hrs : ∀ r,r ∈ rs → Codec.ok α r) (hs : s + rs.length ≤ d.rows.length) (hin : InMem H w) {w' : World} {cur : Array Value} {t : TypeId}
  (hg : w.heap[rblk d]? = some (.cells cur t (0,0))) (hw : w' = w.setRow (rblk d) (cur.toList.take (s * Codec.sz α) ++ flat rs ++ cur.toList.drop (s * Codec.sz α + (flat rs).length)).toArray) :
  ∃ H',InMem H' w' ∧ RowW α n H' w' (d.putRow s rs) ∧ (∀ H0 : HV,HLe H0 H → (∀ x,H0 (rblk d) x = none) → HLe H0 H') ∧ (∀ b x u,H' b x = some u → H b x = some u ∨ b = rblk d) ∧ s * Codec.sz α + (flat rs).length ≤ cur.size ∧ (∀ b,b ≠ rblk d → w'.heap[b]? = w.heap[b]?) := by
 obtain ⟨c,hhd⟩ := h.hd
 have hne := h.ne
 have hi := rows_of h.is
 have hl8 : ∀ r,r ∈ d.rows → r.length = Codec.sz α := fun r hr=>(hf r (hi.1 r hr)).1
 have hr8 : ∀ r,r ∈ rs → r.length = Codec.sz α := fun r hr=>(hf r (hrs r hr)).1
 have hnl : (d.rows.take s ++ rs ++ d.rows.drop (s + rs.length)).length = d.rows.length := by
  simp only [List.length_append,List.length_take,List.length_drop]; omega
 have hno : ∀ r,r ∈ d.rows.take s ++ rs ++ d.rows.drop (s + rs.length) → Codec.ok α r := by
  intro r hr
  rcases List.mem_append.1 hr with hr | hr
  ·rcases List.mem_append.1 hr with hr | hr
   ·exact hi.1 r (List.mem_of_mem_take hr)
   ·exact hrs r hr
  ·exact hi.1 r (List.mem_of_mem_drop hr)
 have hz : d.sz = Codec.sz α := h.is.size (i := 0) (by
  rw [← D.Is.length (α := α)]
  exact List.length_pos_iff.2 hne)
 have hok := h.ok
 have hcells : ∀ i j r x,d.rows[i]? = some r → r[j]? = some x → H (rblk d) (i * Codec.sz α + j) = some x.val := by
  intro i j r x h1 h2
  revert hhd hz h1
  generalize rblk d = B
  clear hg hw
  cases hok with
  | slc a c sz rows hsp hc hlen hcell hk =>
   intro hhd hz h1
   simp only [D.hd,Option.some.injEq,Prod.mk.injEq] at hhd
   obtain ⟨rfl,_⟩ := hhd
   simp only [D.sz] at hz
   subst hz
   have := hcell i j r x h1 h2
   simpa using this
  | nil sz=>intro hhd; simp [D.hd] at hhd
  | int _ _=>intro hhd; simp [D.hd] at hhd
  | bool _=>intro hhd; simp [D.hd] at hhd
  | str _=>intro hhd; simp [D.hd] at hhd
 have hcap : d.rows.length ≤ c := by
  revert hhd
  generalize rblk d = B
  cases hok with
  | slc a c' sz rows hsp hc hlen hcell hk=>intro hhd; simp only [D.hd,Option.some.injEq,Prod.mk.injEq] at hhd; rw [← hhd.2]; exact hc
  | nil sz=>intro hhd; simp [D.hd] at hhd
  | int _ _=>intro hhd; simp [D.hd] at hhd
  | bool _=>intro hhd; simp [D.hd] at hhd
  | str _=>intro hhd; simp [D.hd] at hhd
 generalize hrows' : d.rows.take s ++ rs ++ d.rows.drop (s + rs.length) = rows' at hnl hno
 have hr' : ∀ r,r ∈ rows' → r.length = Codec.sz α := fun r hr=>(hf r (hno r hr)).1
 generalize hZ : Codec.sz α = Z at *
 have hFl : (flat d.rows).length = d.rows.length * Z := flat_len hl8
 have hMl : (flat rs).length = rs.length * Z := flat_len hr8
 have hpre : ∀ (x : Nat) (u : Value),(flat d.rows)[x]? = some u → cur.toList[x]? = some u := by
  intro x u hx
  have hxl : x < d.rows.length * Z := by rw [← hFl]; exact (List.getElem?_eq_some_iff.1 hx).1
  have hZp : 0 < Z := by
   rcases Nat.eq_zero_or_pos Z with h0 | h0
   ·rw [h0] at hxl; simp at hxl
   ·exact h0
  have hi1 : x / Z < d.rows.length := (Nat.div_lt_iff_lt_mul hZp).2 hxl
  have hr1 : d.rows[x / Z]? = some d.rows[x / Z] := List.getElem?_eq_getElem hi1
  have hrl := hl8 _ (List.getElem_mem hi1)
  have hj1 : x % Z < (d.rows[x / Z]).length := by rw [hrl]; exact Nat.mod_lt _ hZp
  have hr2 : (d.rows[x / Z])[x % Z]? = some (d.rows[x / Z])[x % Z] := List.getElem?_eq_getElem hj1
  have e1 := flat_get hl8 _ _ _ _ hr1 hr2
  have e2 := hcells _ _ _ _ hr1 hr2
  have ex : x / Z * Z + x % Z = x := by rw [Nat.mul_comm]; exact Nat.div_add_mod x Z
  rw [ex] at e1 e2
  rw [hx] at e1
  cases e1
  have e3 := hin _ _ _ e2
  simp only [World.cell?,hg,Option.isSome_none,Bool.false_eq_true,if_false] at e3
  simpa using e3
 have hL := prefix_of hpre
 have hfit : s * Z + (flat rs).length ≤ (flat d.rows).length := by rw [hFl,hMl,← Nat.add_mul]; exact Nat.mul_le_mul_right _ hs
 have hcsz : (flat d.rows).length ≤ cur.size := by
  have := congrArg List.length hL
  simp only [List.length_append,Array.length_toList,List.length_drop] at this
  omega
 have hF' : flat rows' = (flat d.rows).take (s * Z) ++ flat rs ++ (flat d.rows).drop (s * Z + (flat rs).length) := by
  rw [← hrows',flat_append,flat_append]
  have tk : ∀ k,k ≤ d.rows.length → flat (d.rows.take k) = (flat d.rows).take (k * Z) ∧ flat (d.rows.drop k) = (flat d.rows).drop (k * Z) := fun k hk=>by
   have e := flat_append (d.rows.take k) (d.rows.drop k)
   rw [List.take_append_drop] at e
   have e2 : (flat (d.rows.take k)).length = k * Z := by
    rw [flat_len (sz := Z) fun r hr=>hl8 r (List.mem_of_mem_take hr),List.length_take,Nat.min_eq_left hk]
   rw [e]
   exact ⟨by rw [← e2,List.take_left],by rw [← e2,List.drop_left]⟩
  rw [(tk s (by omega)).1,(tk (s + rs.length) hs).2,hMl,Nat.add_mul]
 have hL' : cur.toList.take (s * Z) ++ flat rs ++ cur.toList.drop (s * Z + (flat rs).length) = flat rows' ++ cur.toList.drop (flat d.rows).length := by
  rw [hF']
  have e1 : cur.toList.take (s * Z) = (flat d.rows).take (s * Z) := by
   rw [hL,List.take_append_of_le_length (by omega)]
  have e2 : cur.toList.drop (s * Z + (flat rs).length) = (flat d.rows).drop (s * Z + (flat rs).length) ++ cur.toList.drop (flat d.rows).length := by
   conv=>lhs; rw [hL]
   rw [List.drop_append_of_le_length hfit]
  rw [e1,e2,List.append_assoc,List.append_assoc,List.append_assoc]
 rw [hL'] at hw
 have hoth : ∀ b,b ≠ rblk d → w'.heap[b]? = w.heap[b]? := fun b hb=>by rw [hw]; exact setRow_other w _ _ _ hb
 have hnew : w'.heap[rblk d]? = some (.cells (flat rows' ++ cur.toList.drop (flat d.rows).length).toArray t (0,0)) := by
  rw [hw]; exact setRow_heap w _ cur _ t _ hg
 have hpd : d.putRow s rs = .slc (some (⟨rblk d,0,none⟩,c)) Z rows' := by unfold D.putRow; rw [hhd,hz,hrows']
 have hrb : rblk (d.putRow s rs) = rblk d := by rw [hpd]; rfl
 refine ⟨H.row (rblk d) (flat rows'),?_,⟨?_,?_,?_,?_,?_,?_⟩,?_,?_,by omega,hoth⟩
 ·intro b x u hb
  unfold HV.row at hb
  split at hb
  ·rename_i e
   subst e
   simp only [World.cell?,hnew,Option.isSome_none,Bool.false_eq_true,if_false]
   have := (List.getElem?_eq_some_iff.1 hb).1
   simp only [List.getElem?_toArray]
   rw [List.getElem?_append_left this]; exact hb
  ·rename_i e
   have := hin b x u hb
   simpa [World.cell?,hoth b e] using this
 ·rw [hpd]; exact is_rows hZ.symm hno
 ·rw [hpd]
  refine .slc _ _ _ _ (fun _=>rfl) (by rw [hnl]; exact hcap) hr' (fun i j r x h1 h2=>?_) (fun r hr x hx=>(hf r (hno r hr)).2 x hx _)
  simp only [HV.row,if_true,Nat.zero_add]
  exact flat_get hr' i j r x h1 h2
 ·rw [hpd]
  intro e
  have e : rows' = [] := e
  rw [e] at hnl
  exact hne (List.length_eq_zero_iff.1 hnl.symm)
 ·rw [hrb,hpd]; exact ⟨c,rfl⟩
 ·rw [hrb]; exact h.low
 ·rw [hrb]; exact ⟨_,_,hnew⟩
 ·intro H0 hle hno0 b x u hb
  unfold HV.row
  split
  ·rename_i e; subst e; rw [hno0] at hb; cases hb
  ·exact hle b x u hb
 ·intro b x u hb
  unfold HV.row at hb
  split at hb
  ·rename_i e; exact .inr e
  ·exact .inl hb
end
end Sx
end
noncomputable section
open Go Go.Proofs Go.Shelf Sx
namespace Sx
def rdU64 : Rd1 Int where
 read x := match x with | .int .u64 n=>some n | _=>none
 canon n := .int .u64 n
 right H E x b h hok := by
  split at h
  ·cases h; exact ⟨rfl,trivial⟩
  ·cases h
def spMul (x : Int × Int) : SpecR := .data [(0 ≤ x.1 ∧ x.1 < 18446744073709551616) ∧ 0 ≤ x.2 ∧ x.2 < 18446744073709551616] fun _=>.tup [.int .u64 (x.1 * x.2 / 18446744073709551616),.int .u64 (x.1 * x.2 % 18446744073709551616)]
end Sx
namespace Sv
def renMul : Ren := ⟨fun | 212=>144 | 263=>148 | 264=>149 | n=>n,fun | 46=>199 | 51=>209 | 53=>212 | 146=>210 | 148=>213 | n=>n,fun n=>n⟩
theorem laysMul : Lays.n212 Try.prog renMul where
 mixed := by kernel_rfl
 f212 := by kernel_rfl
 f263 := by kernel_rfl
 f264 := by kernel_rfl
 t46 := by kernel_rfl
 a46 := fun w=>by kernel_rfl
 z46 := fun w=>by kernel_rfl
 v46 := fun w=>by kernel_rfl
 t51 := by kernel_rfl
 a51 := fun w=>by kernel_rfl
 z51 := fun w=>by kernel_rfl
 v51 := fun w=>by kernel_rfl
 t53 := by kernel_rfl
 a53 := fun w=>by kernel_rfl
 z53 := fun w=>by kernel_rfl
 v53 := fun w=>by kernel_rfl
 t146 := by kernel_rfl
 a146 := fun w=>by kernel_rfl
 z146 := fun w=>by kernel_rfl
 v146 := fun w=>by kernel_rfl
 t148 := by kernel_rfl
 a148 := fun w=>by kernel_rfl
 z148 := fun w=>by kernel_rfl
 v148 := fun w=>by kernel_rfl
theorem lawMul : Law Try.prog 144 ((rdU64.two rdU64).sp spMul) := by
 refine ⟨by kernel_rfl,fun H E args hargs=>?_⟩
 unfold Rd.sp
 cases hr : (rdU64.two rdU64).read args with
 | none=>trivial
 | some b =>
  obtain ⟨x,y⟩ := b
  simp only
  obtain ⟨h1,h2⟩ := (rdU64.two rdU64).right H E args (x,y) hr hargs
  rw [h1]
  intro hp w hin
  obtain ⟨⟨a1,a2⟩,a3,a4⟩ := hp _ (List.mem_singleton.2 rfl)
  simp only at a1 a2 a3 a4
  obtain ⟨X,rfl⟩ := Int.eq_ofNat_of_zero_le a1
  obtain ⟨Y,rfl⟩ := Int.eq_ofNat_of_zero_le a3
  refine (Any.bits_Mul laysMul X Y (by omega) (by omega) w).mono fun e w' ⟨he,hw⟩=>?_
  subst hw
  refine ⟨_,H,he,after_good (good_start hin ⟨fun _=>0,fun _=>(none,0),fun _=>Go.undef⟩),fun _=>.slc none 0 [],?_,⟨trivial,trivial,trivial⟩⟩
  simp only [SV.den,SV.denL]
  rfl
end Sv
end
noncomputable section
open Go Go.Proofs Sx
namespace Sv
def ctMu : Ctrs := [(144,ctrOf ((rdU64.two rdU64).sp spMul))]
theorem csz_in : goM Try.prog ctMu [] [(124,MidK.copy)] 600 (entry Try.prog 87 []) =
 Tree.all fun hs =>
 .br false Tree.stuck
 (.need
 ((0 ≤ IntKind.wrap .u64 (↑(D.len (D.slc (D.hd (hs 0 0)) 1 [[D.int .i64 4096]])) : Int) ∧
 IntKind.wrap .u64 (↑(D.len (D.slc (D.hd (hs 0 0)) 1 [[D.int .i64 4096]])) : Int) <
 18446744073709551616) ∧
 0 ≤ IntKind.wrap .u64 8 ∧ IntKind.wrap .u64 8 < 18446744073709551616)
 (.all fun hs_1 =>
 .br
 (decide
 (Int.ediv
 (IntKind.wrap .u64 (↑(D.len (D.slc (D.hd (hs 0 0)) 1 [[D.int .i64 4096]])) : Int) *
 IntKind.wrap .u64 8)
 18446744073709551616 >
 0))
 Tree.stuck
 (.br
 (decide
 (Int.emod
 (IntKind.wrap .u64 (↑(D.len (D.slc (D.hd (hs 0 0)) 1 [[D.int .i64 4096]])) : Int) *
 IntKind.wrap .u64 8)
 18446744073709551616 >
 9223372036854775807))
 Tree.stuck
 (.need
 (0 ≤
 IntKind.wrap .i64
 (Int.emod
 (IntKind.wrap .u64 (↑(D.len (D.slc (D.hd (hs 0 0)) 1 [[D.int .i64 4096]])) : Int) *
 IntKind.wrap .u64 8)
 18446744073709551616) ∧
 IntKind.wrap .i64
 (Int.emod
 (IntKind.wrap .u64
 (↑(D.len (D.slc (D.hd (hs 0 0)) 1 [[D.int .i64 4096]])) : Int) *
 IntKind.wrap .u64 8)
 18446744073709551616) =
 IntKind.wrap .i64
 (Int.emod
 (IntKind.wrap .u64
 (↑(D.len (D.slc (D.hd (hs 0 0)) 1 [[D.int .i64 4096]])) : Int) *
 IntKind.wrap .u64 8)
 18446744073709551616) ∧
 (↑8 : Int) *
 IntKind.wrap .i64
 (Int.emod
 (IntKind.wrap .u64
 (↑(D.len (D.slc (D.hd (hs 0 0)) 1 [[D.int .i64 4096]])) : Int) *
 IntKind.wrap .u64 8)
 18446744073709551616) ≤
 281474976710656 ∧
 IntKind.wrap .i64
 (Int.emod
 (IntKind.wrap .u64
 (↑(D.len (D.slc (D.hd (hs 0 0)) 1 [[D.int .i64 4096]])) : Int) *
 IntKind.wrap .u64 8)
 18446744073709551616) ≤
 9223372036854775807)
 (.all fun hs_2 =>
 .leaf
 (Conf.mk
 (SFrm.mk 124 (some (oA 124 [1,1,1,1,1,0],[2,3])) none
 [Item.code (cA 124 [1,1,1,1,1,1])]
 (mkU
 [(0,.vec 1001),(1,.int .i64 8),(4,.nils),
 (5,
 .int .u64
 (Int.ediv
 (IntKind.wrap .u64
 (↑(D.len (D.slc (D.hd (hs 0 0)) 1 [[D.int .i64 4096]])) : Int) *
 IntKind.wrap .u64 8)
 18446744073709551616)),
 (6,
 .int .u64
 (Int.emod
 (IntKind.wrap .u64
 (↑(D.len (D.slc (D.hd (hs 0 0)) 1 [[D.int .i64 4096]])) : Int) *
 IntKind.wrap .u64 8)
 18446744073709551616)),
 (7,.vec 2030),(9,.int .i64 8),(10,.bool false),
 (12,
 SV.tup
 [.int .u64
 (Int.ediv
 (IntKind.wrap .u64
 (↑(D.len (D.slc (D.hd (hs 0 0)) 1 [[D.int .i64 4096]])) : Int) *
 IntKind.wrap .u64 8)
 18446744073709551616),
 .int .u64
 (Int.emod
 (IntKind.wrap .u64
 (↑(D.len (D.slc (D.hd (hs 0 0)) 1 [[D.int .i64 4096]])) : Int) *
 IntKind.wrap .u64 8)
 18446744073709551616)]),
 (13,.vec 1001),
 (14,
 .int .i64 (↑(D.len (D.slc (D.hd (hs 0 0)) 1 [[D.int .i64 4096]])) : Int)),
 (15,
 .int .u64
 (IntKind.wrap .u64
 (↑(D.len (D.slc (D.hd (hs 0 0)) 1 [[D.int .i64 4096]])) : Int))),
 (16,.int .i64 8),(17,.int .u64 (IntKind.wrap .u64 8)),
 (18,
 SV.tup
 [.int .u64
 (Int.ediv
 (IntKind.wrap .u64
 (↑(D.len (D.slc (D.hd (hs 0 0)) 1 [[D.int .i64 4096]])) : Int) *
 IntKind.wrap .u64 8)
 18446744073709551616),
 .int .u64
 (Int.emod
 (IntKind.wrap .u64
 (↑(D.len (D.slc (D.hd (hs 0 0)) 1 [[D.int .i64 4096]])) : Int) *
 IntKind.wrap .u64 8)
 18446744073709551616)]),
 (19,
 .int .u64
 (Int.ediv
 (IntKind.wrap .u64
 (↑(D.len (D.slc (D.hd (hs 0 0)) 1 [[D.int .i64 4096]])) : Int) *
 IntKind.wrap .u64 8)
 18446744073709551616)),
 (20,
 .int .u64
 (Int.emod
 (IntKind.wrap .u64
 (↑(D.len (D.slc (D.hd (hs 0 0)) 1 [[D.int .i64 4096]])) : Int) *
 IntKind.wrap .u64 8)
 18446744073709551616)),
 (21,
 .int .u64
 (Int.ediv
 (IntKind.wrap .u64
 (↑(D.len (D.slc (D.hd (hs 0 0)) 1 [[D.int .i64 4096]])) : Int) *
 IntKind.wrap .u64 8)
 18446744073709551616)),
 (22,
 .bool
 (decide
 (Int.ediv
 (IntKind.wrap .u64
 (↑(D.len (D.slc (D.hd (hs 0 0)) 1 [[D.int .i64 4096]])) : Int) *
 IntKind.wrap .u64 8)
 18446744073709551616 >
 0))),
 (23,.lb false),
 (24,
 .int .u64
 (Int.emod
 (IntKind.wrap .u64
 (↑(D.len (D.slc (D.hd (hs 0 0)) 1 [[D.int .i64 4096]])) : Int) *
 IntKind.wrap .u64 8)
 18446744073709551616)),
 (25,
 .bool
 (decide
 (Int.emod
 (IntKind.wrap .u64
 (↑(D.len (D.slc (D.hd (hs 0 0)) 1 [[D.int .i64 4096]])) : Int) *
 IntKind.wrap .u64 8)
 18446744073709551616 >
 9223372036854775807))),
 (26,
 .bool
 (decide
 (Int.emod
 (IntKind.wrap .u64
 (↑(D.len (D.slc (D.hd (hs 0 0)) 1 [[D.int .i64 4096]])) : Int) *
 IntKind.wrap .u64 8)
 18446744073709551616 >
 9223372036854775807))),
 (28,
 .int .u64
 (Int.emod
 (IntKind.wrap .u64
 (↑(D.len (D.slc (D.hd (hs 0 0)) 1 [[D.int .i64 4096]])) : Int) *
 IntKind.wrap .u64 8)
 18446744073709551616)),
 (29,
 .int .i64
 (IntKind.wrap .i64
 (Int.emod
 (IntKind.wrap .u64
 (↑(D.len (D.slc (D.hd (hs 0 0)) 1 [[D.int .i64 4096]])) : Int) *
 IntKind.wrap .u64 8)
 18446744073709551616))),
 (30,.vec 2030),(31,.vec 2030),(32,.vec 1001)]
 0 48))
 [SFrm.mk 87 (some (oA 87 [1,0],[2])) (some 2) [Item.code (cA 87 [1,1])]
 (mkU [(0,.nils),(1,.vec 1001)] 0 3)]
 [(2030,
 OBlk.arr 3
 (D.slc (D.hd (hs_2 0 0)) 1
 (List.replicate
 (Int.toNat
 (IntKind.wrap .i64
 (Int.emod
 (IntKind.wrap .u64
 (↑(D.len (D.slc (D.hd (hs 0 0)) 1 [[D.int .i64 4096]])) : Int) *
 IntKind.wrap .u64 8)
 18446744073709551616)))
 [D.int .i64 0]))),
 (1001,OBlk.arr 3 (D.slc (D.hd (hs 0 0)) 1 [[D.int .i64 4096]]))])))))) := by kernel_rfl
def rpA (d : D) : Conf := Conf.mk (SFrm.mk 124 (some (oA 124 [1,1,1,1,1,0],[3])) none [Item.code (cA 124 [1,1,1,1,1,1])] (mkJ 0 [(7,.dat d),(33,.int .i64 1)] 0 48)) [] []
section
variable (d : D) (n : Int)
theorem rpa_go : goM Try.prog [] [] [(124,MidK.copy)] 100 (rpA d) =
 Tree.leaf
 (Conf.mk
 (SFrm.mk 124 none none
 [Item.inLoop (cA 124 [1,1,1,1,1,1,0,0,0]),Item.inBlock 0,
 Item.code (cA 124 [1,1,1,1,1,1,1])]
 (mkJ 0 [(7,.dat d),(8,.int .i64 1)] 0 48))
 [] []) := by kernel_rfl
end
end Sv
end
noncomputable section
namespace Sx
open Go RowKit
section
variable {P : Program} {ops : Array Oper} {Q : Exit → Act → World → Prop}
structure FInv (dst : Nat → Nat) (vals : Nat → Value) (base : Array Value) (l : List Nat) (T : Array Value) : Prop where
 size : T.size = base.size
 done : ∀ i,i ∈ l → T[dst i]? = some (vals i)
 old : ∀ s,(∀ i,i ∈ l → dst i ≠ s) → T[s]? = base[s]?
theorem FInv.step {dst : Nat → Nat} {vals : Nat → Value} {base : Array Value} {l : List Nat} {T : Array Value} (h : FInv dst vals base l T) {i : Nat} (hd : dst i < base.size) (hne : ∀ j,j ∈ l → dst j ≠ dst i) : FInv dst vals base (l ++ [i]) (T.setIfInBounds (dst i) (vals i)) := by
 refine ⟨by simpa using h.size,fun j hj=>?_,fun s hs=>?_⟩
 ·rcases List.mem_append.1 hj with hj | hj
  ·rw [Array.getElem?_setIfInBounds_ne (Ne.symm (hne j hj))]; exact h.done j hj
  ·rw [List.mem_singleton.1 hj,Array.getElem?_setIfInBounds_self_of_lt (by rw [h.size]; exact hd)]
 ·rw [Array.getElem?_setIfInBounds_ne (hs i (by simp))]
  exact h.old s fun j hj=>hs j (by simp [hj])
theorem flow_len : ∀ {N : Nat} {l : List Nat},l.Nodup → (∀ i,i ∈ l → i < N) → l.length ≤ N
 | 0,l,_,h=>by
  cases l with
  | nil=>simp
  | cons x r=>have := h x List.mem_cons_self; omega
 | N + 1,l,hn,h=>by
  have h1 := flow_len (N := N) (l := l.erase N) (hn.erase N) fun x hx=>by
   have h2 := h x (List.mem_of_mem_erase hx)
   have h3 : x ≠ N := fun e=>by subst e; exact (List.Nodup.not_mem_erase hn) hx
   omega
  have h2 : l.length ≤ (l.erase N).length + 1 := by
   by_cases hm : N ∈ l
   ·rw [List.length_erase_of_mem hm]; omega
   ·rw [List.erase_of_not_mem hm]; omega
  omega
theorem wpAny_flow {dst : Nat → Nat} {vals : Nat → Value} {base : Array Value} {w0 w1 : World} {c : Nat}
  (hlt : ∀ i,i < ops.size → ∀ j,j ∈ predsOf ops i → j < i)
  (hdst : ∀ (i : Nat) (o : Oper),ops[i]? = some o → o.dst = some (dst i) ∧ o.guard = none ∧ dst i < base.size)
  (hinj : ∀ i j,i < ops.size → j < ops.size → dst i = dst j → i = j) (hc : c < ops.size)
  (hex : ∀ (i : Nat) (o : Oper),ops[i]? = some o → ∀ (l : List Nat) (T : Array Value),Begun ops l → i ∉ l → (∀ j,j ∈ predsOf ops i → j ∈ l) → FInv dst vals base l T →
   if i = c then (execOp (Act.eval ⟨T,[]⟩) o).run P w0 = .ok (.value (vals i)) w1 else ∀ w,(execOp (Act.eval ⟨T,[]⟩) o).run P w = .ok (.value (vals i)) w)
  (hQ : ∀ T l,(∀ i,i < ops.size → i ∈ l) → FInv dst vals base l T → Q .normal ⟨T,[]⟩ w1) :
  ∀ (fuel : Nat) (l : List Nat) (listed : Array Bool) (T : Array Value),l.length + fuel = ops.size → Begun ops l → l.Nodup → (∀ j,j ∈ l → j < ops.size) → listed.size = ops.size → (∀ j,j < ops.size → listed[j]? = some (l.contains j)) →
   FInv dst vals base l T → wpAny P .any ops Q fuel listed ⟨T,[]⟩ (if c ∈ l then w1 else w0) := by
 have all : ∀ l : List Nat,l.Nodup → (∀ j,j ∈ l → j < ops.size) → l.length = ops.size → ∀ i,i < ops.size → i ∈ l := by
  intro l hn hl he i hi
  by_cases h : i ∈ l
  ·exact h
  ·have := flow_len (N := ops.size) (l := i :: l) (List.nodup_cons.2 ⟨h,hn⟩) (fun j hj=>by
    rcases List.mem_cons.1 hj with hj | hj
    ·rw [hj]; exact hi
    ·exact hl j hj)
   simp only [List.length_cons] at this; omega
 intro fuel
 induction fuel with
 | zero =>
  intro l listed T hlen hb hn hl hsz hls hI
  have ha := all l hn hl (by omega)
  refine ⟨?_,?_⟩
  ·rw [List.eq_nil_iff_forall_not_mem]
   intro i hi
   obtain ⟨h1,h2,_⟩ := (ready_iff hsz hls hlt).1 hi
   exact h2 (ha i h1)
  ·rw [if_pos (ha c hc)]; exact hQ T l ha hI
 | succ fuel ih =>
  intro l listed T hlen hb hn hl hsz hls hI
  refine ⟨fun hnil=>?_,fun i hi=>?_⟩
  ·exfalso
   have hex : ∃ m,m < ops.size ∧ m ∉ l := by
    by_cases h : ∃ m,m < ops.size ∧ m ∉ l
    ·exact h
    ·have h' : ∀ i,i < ops.size → i ∈ l := fun i hi=>by
      by_cases hm : i ∈ l
      ·exact hm
      ·exact absurd ⟨i,hi,hm⟩ h
     have := len_ge ops.size l h'
     omega
   obtain ⟨m,hm1,hm2⟩ := hex
   have key : ∀ m,m < ops.size → m ∉ l → False := by
    intro m
    induction m using Nat.strongRecOn with
    | _ m ihm =>
     intro h1 h2
     have : m ∈ Region.ready .any ops listed := (ready_iff hsz hls hlt).2 ⟨h1,h2,fun j hj=>by
      by_cases hjl : j ∈ l
      ·exact hjl
      ·exact (ihm j (hlt m h1 j hj) (by have := hlt m h1 j hj; omega) hjl).elim⟩
     rw [hnil] at this; cases this
   exact key m hm1 hm2
  ·obtain ⟨h1,h2,h3⟩ := (ready_iff hsz hls hlt).1 hi
   have ho : ops[i]? = some ops[i] := by simp [h1]
   obtain ⟨d1,d2,d3⟩ := hdst i _ ho
   obtain ⟨s1,s2⟩ := listed_step hsz hls h1
   have hst := hI.step (i := i) d3 (fun j hj e=>h2 (by rw [← hinj j i (hl j hj) h1 e]; exact hj))
   have hnext := ih (l ++ [i]) _ _ (by simp; omega) (.snoc hb h2 h1 h3) (by
    rw [List.nodup_append]
    exact ⟨hn,by simp,fun a ha b hb e=>by rw [List.mem_singleton] at hb; subst hb; subst e; exact h2 ha⟩) (fun j hj=>by
    rcases List.mem_append.1 hj with hj | hj
    ·exact hl j hj
    ·rw [List.mem_singleton.1 hj]; exact h1) s1 s2 hst
   unfold wpOp
   rw [ho]
   simp only [wanted_none d2,if_true]
   left
   unfold Oper.wp
   have hx := hex i _ ho l T hb h2 h3 hI
   by_cases hic : i = c
   ·rw [if_pos hic] at hx
    rw [if_neg (by rw [← hic]; exact h2),hx]
    rw [if_pos (by simp [hic])] at hnext
    simp only [Oper.upon,d1,Act.put]
    exact hnext
   ·rw [if_neg hic] at hx
    rw [hx]
    have e : (c ∈ l ++ [i]) = (c ∈ l) := by
     rw [List.mem_append,List.mem_singleton]
     exact propext ⟨fun h=>h.resolve_right (Ne.symm hic),.inl⟩
    simp only [e] at hnext
    simp only [Oper.upon,d1,Act.put]
    exact hnext
theorem at_flow {f : FuncId} {aw : Option Tmp} {id : Nat} {k : List Item} {tmps : List SV} {H : HV} {w : World} {R : Value → World → Prop} {dst : Nat → Nat} {c : Nat} {w1 : World}
  (hm : P.follows .mixedOrders = true) (hcalm : calmOps ops = true) (hlt : ∀ i,i < ops.size → ∀ j,j ∈ predsOf ops i → j < i)
  (hdst : ∀ (i : Nat) (o : Oper),ops[i]? = some o → o.dst = some (dst i) ∧ o.guard = none ∧ dst i < tmps.length)
  (hinj : ∀ i j,i < ops.size → j < ops.size → dst i = dst j → i = j) (hc : c < ops.size)
  (h : ∀ E : Env,∃ vals : Nat → Value,(∀ (i : Nat) (o : Oper),ops[i]? = some o → ∀ (l : List Nat) (T : Array Value),Begun ops l → i ∉ l → (∀ j,j ∈ predsOf ops i → j ∈ l) → FInv dst vals (SV.denL E tmps).toArray l T →
   if i = c then (execOp (Act.eval ⟨T,[]⟩) o).run P w.drew = .ok (.value (vals i)) w1 else ∀ w,(execOp (Act.eval ⟨T,[]⟩) o).run P w = .ok (.value (vals i)) w) ∧
   ∀ T l,(∀ i,i < ops.size → i ∈ l) → FInv dst vals (SV.denL E tmps).toArray l T → StkRun P ctxPlain ⟨f,none,aw,k,⟨T,[]⟩,none⟩ [] w1 R) :
  At P ⟨⟨f,none,aw,.code (.region id ops true) :: k,tmps⟩,[],[]⟩ H w R := by
 intro E ok hin
 obtain ⟨vals,h1,h2⟩ := h E
 show Go1 P none f (.code (.region id ops true) :: k) ⟨(SV.denL E tmps).toArray,[]⟩ w R
 refine Go1.draw hm hcalm ?_
 have := wpAny_flow (P := P) (ops := ops) (Q := Qk P none f k R) (w0 := w.drew) (w1 := w1) hlt (fun i o ho=>by
  obtain ⟨a,b,d⟩ := hdst i o ho
  exact ⟨a,b,by simpa [SV.denL_eq] using d⟩) hinj hc h1 (fun T l ha hI=>⟨rfl,h2 T l ha hI⟩) ops.size [] (Array.replicate ops.size false) _ (by simp) .nil (by simp) (by simp) (by simp) (fun j hj=>by simp [hj]) ⟨rfl,by simp,fun _ _=>rfl⟩
 simpa using this
end
end Sx
namespace Sx
open Go RowKit
section
variable {P : Program} {ops : Array Oper}
theorem run_sub (w : World) {t e : TypeId} {s : Nat} (ht : P.underlying t = some (.slice e)) (hs : (P.info? e).map (·.size) = some s) {d : D} {a : Addr} {c : Nat} (hds : d.IsSlc) (hd : d.hd = some (a,c)) (hc : d.len ≤ c) {lo hi : Option SV} {E : Env} {l h' : Int}
  (hl : boundR lo 0 = some l) (hh : boundR hi d.len = some h') (p0 : 0 ≤ l) (p1 : l ≤ h') (p2 : h' ≤ d.len) (hsz : d.sz = s) :
  (Instr.sliceAt t d.val (lo.map (SV.den E)) (hi.map (SV.den E)) none).run P w = .ok (d.sub l.toNat h'.toNat).val w := by
 have hlr : ((d.rows.drop l.toNat).take (h'.toNat - l.toNat)).length = h'.toNat - l.toNat := by
  simp only [D.len] at p2; rw [List.length_take,List.length_drop]; omega
 have hv : d.val = hval d.hd d.len := by
  obtain ⟨x,y,z,rfl⟩ := hds; rfl
 rw [hv,hd]
 have hb := run_bounds (P := P) w d.len c lo _ E l h' hl hh p0 p1 p2 hc
 simp only [hval,Instr.sliceAt,Instr.slice,Sem.run_bind,run_underlying ht,Result.andThen_ok,Option.map_none,hb,run_sizeOf hs]
 simp only [D.sub,D.val,hd,Option.map_some,hval,hlr,hsz,Sem.run_pure]
 split <;> rfl
def opK (ops : Array Oper) (i : Nat) : Option (Op × Tmp) :=
 match ops[i]? with
 | some ⟨some d,op,_,_,_,none⟩=>some (op,d)
 | _=>none
theorem opK_spec {i : Nat} {op : Op} {d : Tmp} (h : opK ops i = some (op,d)) {o : Oper} (ho : ops[i]? = some o) : o.dst = some d ∧ o.guard = none ∧ o.op = op := by
 unfold opK at h
 rw [ho] at h
 split at h
 ·rename_i heq
  cases heq
  cases h
  exact ⟨rfl,rfl,rfl⟩
 ·cases h
theorem run_moveO {o : Oper} {x : Operand} (ho : o.op = .move x) (ev : Operand → Value) (w : World) : (execOp ev o).run P w = .ok (.value (ev x)) w := by
 obtain ⟨a,b,c,d,e,f⟩ := o
 simp only at ho; subst ho
 simp [execOp]
theorem run_assignO {o : Oper} {x : Operand} (ho : o.op = .assign x) (ev : Operand → Value) (w : World) : (execOp ev o).run P w = .ok (.value (ev x)) w := by
 obtain ⟨a,b,c,d,e,f⟩ := o
 simp only at ho; subst ho
 simp [execOp]
theorem run_sliceO {o : Oper} {t : TypeId} {x : Operand} {lo hi mx : Option Operand} (ho : o.op = .slice t x lo hi mx) (ev : Operand → Value) (w : World) {v : Value} (h : (Instr.sliceAt t (ev x) (lo.map ev) (hi.map ev) (mx.map ev)).run P w = .ok v w) : (execOp ev o).run P w = .ok (.value v) w := by
 obtain ⟨a,b,c,d,e,f⟩ := o
 simp only at ho; subst ho
 simp only [execOp,Sem.run_bind,h,Result.andThen_ok,Sem.run_pure]
theorem eval_tmp {T : Array Value} {s : Nat} {v : Value} (h : T[s]? = some v) : Act.eval ⟨T,[]⟩ (.tmp s) = v := by
 simp [Act.eval,h]
end
end Sx
end
noncomputable section
open Go Go.Proofs Sx
namespace Sv
def rpL (d : D) (n : Int) : Conf := Conf.mk (SFrm.mk 124 none none [Item.inLoop (cA 124 [1,1,1,1,1,1,0,0,0]),Item.inBlock 0,Item.code (cA 124 [1,1,1,1,1,1,1])] (mkJ 0 [(7,.dat d),(8,.int .i64 n)] 0 48)) [] []
def rpC (d : D) (n : Int) : Conf := Conf.mk (SFrm.mk 124 none none [Item.inBlock 1,Item.inLoop (cA 124 [1,1,1,1,1,1,0,0,0]),Item.inBlock 0,Item.code (cA 124 [1,1,1,1,1,1,1])] (mkJ 0 [(7,.dat d),(8,.int .i64 n)] 0 48)) [] []
def szB (d : D) : Conf := Conf.mk (SFrm.mk 87 (some (oA 87 [1,0],[2])) none [Item.code (cA 87 [1,1])] (mkJ 0 [(2,.dat d)] 0 3)) [] []
section
variable (d : D) (n : Int)
theorem rpl_go : goS Try.prog [] (fun _=>false) [(124,38)] 100 (unroll (rpL d n)) =
 Tree.br (decide (n < (↑(D.len d) : Int)))
 (.leaf
 (Conf.mk
 (SFrm.mk 124 none none
 [Item.code (cA 124 [1,1,1,1,1,1,0,0,0,1,0]),Item.inBlock 1,
 Item.inLoop (cA 124 [1,1,1,1,1,1,0,0,0]),Item.inBlock 0,
 Item.code (cA 124 [1,1,1,1,1,1,1])]
 (mkJ 0 [(7,.dat d),(8,.int .i64 n)] 0 48))
 [] []))
 (.ret (.dat d)) := by kernel_rfl
theorem szb_go : exec Try.prog [] 100 (szB d) =
 Tree.ret (.dat d) := by kernel_rfl
theorem rpc_go : exec Try.prog [] 100 (rpC d n) =
 Tree.leaf
 (Conf.mk
 (SFrm.mk 124 none none
 [Item.inLoop (cA 124 [1,1,1,1,1,1,0,0,0]),Item.inBlock 0,
 Item.code (cA 124 [1,1,1,1,1,1,1])]
 (mkJ 0 [(7,.dat d),(8,.int .i64 n)] 0 48))
 [] []) := by kernel_rfl
end
def rpO : Array Oper := oA 124 [1,1,1,1,1,1,0,0,0,1,0]
def rpId : Nat := match cA 124 [1,1,1,1,1,1,0,0,0,1,0] with | .region id _ _=>id | _=>0
theorem rp_reg : cA 124 [1,1,1,1,1,1,0,0,0,1,0] = .region rpId rpO true := by kernel_rfl
theorem rp_size : rpO.size = 10 := by kernel_rfl
theorem rp_k0 : opK rpO 0 = some (.move (.tmp 8),38) := by kernel_rfl
theorem rp_k1 : opK rpO 1 = some (.move (.tmp 7),39) := by kernel_rfl
theorem rp_k2 : opK rpO 2 = some (.move (.tmp 8),40) := by kernel_rfl
theorem rp_k3 : opK rpO 3 = some (.slice 32 (.tmp 39) (some (.tmp 40)) none none,41) := by kernel_rfl
theorem rp_k4 : opK rpO 4 = some (.move (.tmp 7),42) := by kernel_rfl
theorem rp_k5 : opK rpO 5 = some (.move (.tmp 8),43) := by kernel_rfl
theorem rp_k6 : opK rpO 6 = some (.slice 32 (.tmp 42) none (some (.tmp 43)) none,44) := by kernel_rfl
theorem rp_k7 : opK rpO 7 = some (.call ⟨.builtin .copy,#[.tmp 41,.tmp 44],#[32,32]⟩,45) := by kernel_rfl
theorem rp_k8 : opK rpO 8 = some (.binOp .add 3 (.tmp 38) (.tmp 45) 3,46) := by kernel_rfl
theorem rp_k9 : opK rpO 9 = some (.assign (.tmp 46),8) := by kernel_rfl
theorem rp_p3 : predsOf rpO 3 = [1,2] := by kernel_rfl
theorem rp_p6 : predsOf rpO 6 = [4,5] := by kernel_rfl
theorem rp_p7 : predsOf rpO 7 = [3,6] := by kernel_rfl
theorem rp_p8 : predsOf rpO 8 = [0,7] := by kernel_rfl
theorem rp_p9 : predsOf rpO 9 = [8,7,0,1,2,3,4,5,6,7,8] := by kernel_rfl
theorem rp_lt : ∀ i,i < rpO.size → ∀ j,j ∈ predsOf rpO i → j < i := by
 have h : ((List.range 10).all fun i=>(predsOf rpO i).all fun j=>decide (j < i)) = true := by kernel_rfl
 intro i hi j hj
 rw [rp_size] at hi
 have := List.all_eq_true.1 h i (List.mem_range.2 hi)
 exact of_decide_eq_true (List.all_eq_true.1 this j hj)
def rpDst (i : Nat) : Nat := match i with | 0=>38 | 1=>39 | 2=>40 | 3=>41 | 4=>42 | 5=>43 | 6=>44 | 7=>45 | 8=>46 | _=>8
theorem rp_ten {i : Nat} (h : i < 10) : i = 0 ∨ i = 1 ∨ i = 2 ∨ i = 3 ∨ i = 4 ∨ i = 5 ∨ i = 6 ∨ i = 7 ∨ i = 8 ∨ i = 9 := by omega
theorem rp_dst (n : Nat) (hn : n = 48) : ∀ (i : Nat) (o : Oper),rpO[i]? = some o → o.dst = some (rpDst i) ∧ o.guard = none ∧ rpDst i < n := by
 intro i o ho
 have hi : i < 10 := by rw [← rp_size]; exact (Array.getElem?_eq_some_iff.1 ho).1
 subst hn
 rcases rp_ten hi with rfl | rfl | rfl | rfl | rfl | rfl | rfl | rfl | rfl | rfl
 ·exact ⟨(opK_spec rp_k0 ho).1,(opK_spec rp_k0 ho).2.1,by decide⟩
 ·exact ⟨(opK_spec rp_k1 ho).1,(opK_spec rp_k1 ho).2.1,by decide⟩
 ·exact ⟨(opK_spec rp_k2 ho).1,(opK_spec rp_k2 ho).2.1,by decide⟩
 ·exact ⟨(opK_spec rp_k3 ho).1,(opK_spec rp_k3 ho).2.1,by decide⟩
 ·exact ⟨(opK_spec rp_k4 ho).1,(opK_spec rp_k4 ho).2.1,by decide⟩
 ·exact ⟨(opK_spec rp_k5 ho).1,(opK_spec rp_k5 ho).2.1,by decide⟩
 ·exact ⟨(opK_spec rp_k6 ho).1,(opK_spec rp_k6 ho).2.1,by decide⟩
 ·exact ⟨(opK_spec rp_k7 ho).1,(opK_spec rp_k7 ho).2.1,by decide⟩
 ·exact ⟨(opK_spec rp_k8 ho).1,(opK_spec rp_k8 ho).2.1,by decide⟩
 ·exact ⟨(opK_spec rp_k9 ho).1,(opK_spec rp_k9 ho).2.1,by decide⟩
theorem rp_inj : ∀ i j,i < rpO.size → j < rpO.size → rpDst i = rpDst j → i = j := by
 have h : ((List.range 10).all fun i=>(List.range 10).all fun j=>(rpDst i != rpDst j) || i == j) = true := by decide
 intro i j hi hj e
 rw [rp_size] at hi hj
 have h1 := List.all_eq_true.1 h i (List.mem_range.2 hi)
 have h2 := List.all_eq_true.1 h1 j (List.mem_range.2 hj)
 simpa [e] using h2
theorem int_ty : Try.prog.underlying 32 = some (.slice 3) := by kernel_rfl
theorem int_sz : (Try.prog.info? 3).map (·.size) = some 1 := by kernel_rfl
theorem rp_mixed : Try.prog.follows .mixedOrders = true := by kernel_rfl
theorem rp_calm : calmOps rpO = true := by kernel_rfl
theorem int_add (a b : Int) (w : World) (x y : Operand) : (do eqGuard .add 3 x y (.int .i64 a) (.int .i64 b); binOp .add 3 (.int .i64 a) (.int .i64 b) : Sem Value).run Try.prog w = .ok (.int .i64 (IntKind.i64.wrap (a + b))) w := by
 have hn : InMem (fun _ _=>none) w := fun b o v (h : none = some v)=>by cases h
 have g := good_start hn (Env.mk (fun _=>0) (fun _=>(none,0)) fun _=>Go.undef)
 have := (binR_spec (P := Try.prog) g (op := .add) (t := 3) (a := .int .i64 a) (b := .int .i64 b) (by simp [SV.Ok]) (ps := []) (v := .int .i64 (IntKind.i64.wrap (a + b))) (by kernel_rfl) (by simp) x y).1
 exact this
theorem run_addO {o : Oper} {x y : Operand} {z : TypeId} (ho : o.op = .binOp .add 3 x y z) (ev : Operand → Value) (w : World) {a b : Int} (hx : ev x = .int .i64 a) (hy : ev y = .int .i64 b) : (execOp ev o).run Try.prog w = .ok (.value (.int .i64 (IntKind.i64.wrap (a + b)))) w := by
 obtain ⟨p,q,c,d,e,f⟩ := o
 simp only at ho; subst ho
 have := int_add a b w x y
 simp only [execOp,hx,hy]
 rw [Sem.run_bind,this]; rfl
theorem run_copyO {o : Oper} {x y : Operand} (ho : o.op = .call ⟨.builtin .copy,#[x,y],#[32,32]⟩) (ev : Operand → Value) (w w' : World) {v : Value} (h : ∀ ty,(Builtin.copy_ #[32,32] ty #[ev x,ev y]).run Try.prog w = .ok v w') : (execOp ev o).run Try.prog w = .ok (.value v) w' := by
 obtain ⟨p,q,c,d,e,f⟩ := o
 simp only at ho; subst ho
 simp only [execOp,resolve,invoke,builtin,Sem.run_bind,Sem.run_pure,Result.andThen_ok,List.map_toArray,List.map_cons,List.map_nil,h]
theorem row_cells {H : HV} {w : World} {d : D} {n : Nat} (h : RowW Int n H w d) {m : Nat} (hm : m ≤ d.rows.length) : ∀ (j : Nat) (v : Value),(flat (d.rows.take m))[j]? = some v → H (rblk d) j = some v := by
 intro j v hv
 have hz : d.sz = 1 := h.is.size (i := 0) (by
  rw [← D.Is.length (α := Int)]
  exact List.length_pos_iff.2 h.ne)
 obtain ⟨c,hhd⟩ := h.hd
 have hl1 : ∀ r,r ∈ d.rows.take m → r.length = 1 := fun r hr=>(flat_int r ((rows_of h.is).1 r (List.mem_of_mem_take hr))).1
 have hlen : (flat (d.rows.take m)).length = m := by rw [flat_len hl1,List.length_take]; omega
 have hj : j < m := by rw [← hlen]; exact (List.getElem?_eq_some_iff.1 hv).1
 have hjr : j < d.rows.length := by omega
 have hr1 : d.rows[j]? = some d.rows[j] := List.getElem?_eq_getElem hjr
 obtain ⟨x,hx⟩ := (rows_of h.is).1 _ (List.getElem_mem hjr)
 have hr2 : (d.rows[j])[0]? = some (.int .i64 x) := by rw [hx]; rfl
 have e1 := flat_get hl1 j 0 d.rows[j] (.int .i64 x) (by rw [List.getElem?_take,if_pos hj,hr1]) hr2
 rw [Nat.mul_one,Nat.add_zero,hv] at e1
 cases e1
 have hok := h.ok
 revert hhd hz hr1 hr2
 generalize rblk d = B
 cases hok with
 | slc a c' sz rows hsp hc hlen hcell hk =>
  intro hz hhd hr1 hr2
  simp only [D.hd,Option.some.injEq,Prod.mk.injEq] at hhd
  obtain ⟨rfl,_⟩ := hhd
  simp only [D.sz] at hz
  subst hz
  have := hcell j 0 _ _ hr1 hr2
  simpa using this
 | nil sz=>intro _ hhd; simp [D.hd] at hhd
 | int _ _=>intro _ hhd; simp [D.hd] at hhd
 | bool _=>intro _ hhd; simp [D.hd] at hhd
 | str _=>intro _ hhd; simp [D.hd] at hhd
theorem row_copy {w0 w : World} {H0 H : HV} (a : After w0 H0 w H) {d : D} (hin0 : ∀ x,H0 (rblk d) x = none) (h : RowW Int w0.heap.size H w d) {s : Nat} {rs : List (List D)} (hrs : ∀ r,r ∈ rs → Codec.ok Int r) (hs : s + rs.length ≤ d.rows.length) {cur : Array Value} {t : TypeId}
  (hg : w.heap[rblk d]? = some (.cells cur t (0,0))) : s * 1 + (flat rs).length ≤ cur.size ∧ ∃ H',After w0 H0 (w.setRow (rblk d) (cur.toList.take (s * 1) ++ flat rs ++ cur.toList.drop (s * 1 + (flat rs).length)).toArray) H' ∧ RowW Int w0.heap.size H' (w.setRow (rblk d) (cur.toList.take (s * 1) ++ flat rs ++ cur.toList.drop (s * 1 + (flat rs).length)).toArray) (d.putRow s rs) := by
 obtain ⟨H2,p1,p2,p3,p4,p5,p6⟩ := h.put flat_int hrs hs a.cell hg rfl
 refine ⟨p5,H2,⟨below_setRow a.below h.low _,p3 H0 a.le hin0,fun b x u hb=>?_,p1⟩,p2⟩
 rcases p4 b x u hb with h1 | h1
 ·exact a.fresh b x u h1
 ·exact .inr (by rw [h1]; exact h.low)
theorem put_row_val {d : D} (h : d.IsSlc) {s : Nat} {rs : List (List D)} (hs : s + rs.length ≤ d.rows.length) : (d.putRow s rs).val = d.val := by
 obtain ⟨a,b,c,rfl⟩ := h
 have : (c.take s ++ rs ++ c.drop (s + rs.length)).length = c.length := by
  simp only [D.rows] at hs
  simp only [List.length_append,List.length_take,List.length_drop]; omega
 show hval a (c.take s ++ rs ++ c.drop (s + rs.length)).length = hval a c.length
 rw [this]
theorem put_row_to {d : D} {s : Nat} {rs : List (List D)} : (d.putRow s rs).to Int = (d.to Int).take s ++ rs.map Codec.dec ++ (d.to Int).drop (s + rs.length) := by
 simp only [D.putRow,D.to,D.rows,List.map_append,List.map_take,List.map_drop]
def szR (w0 : World) (H0 : HV) : Value → World → Prop := RetD w0 H0 fun ds=>.dat ((ds 0).like most)
def rpVals (d : D) (n : Nat) (i : Nat) : Value := match i with | 0=>goInt n | 1=>d.val | 2=>goInt n | 3=>(d.sub n d.len).val | 4=>d.val | 5=>goInt n | 6=>(d.sub 0 n).val | 7=>goInt n | _=>goInt (2 * n)
theorem rp_base (E : Env) (d : D) (n : Int) : (SV.denL E (mkJ 0 [(7,SV.dat d),(8,.int .i64 n)] 0 48)).toArray[7]? = some d.val ∧ (SV.denL E (mkJ 0 [(7,SV.dat d),(8,.int .i64 n)] 0 48)).toArray[8]? = some (.int .i64 n) := ⟨rfl,rfl⟩
theorem rp_round {w0 w : World} {H0 H : HV} (a : After w0 H0 w H) {d : D} (hin0 : ∀ x,H0 (rblk d) x = none) (h : RowW Int w0.heap.size H w d) (hl : d.len = 8) {n : Nat} (h1 : 1 ≤ n) (h4 : n ≤ 4) {k : List Item} {R : Value → World → Prop}
  (hnext : ∀ H' w',After w0 H0 w' H' → RowW Int w0.heap.size H' w' (d.putRow n (d.rows.take n)) → At Try.prog ⟨⟨124,none,none,k,mkJ 0 [(7,.dat (d.putRow n (d.rows.take n))),(8,.int .i64 ((2 * n : Nat) : Int))] 0 48⟩,[],[]⟩ H' w' R) :
  At Try.prog ⟨⟨124,none,none,.code (.region rpId rpO true) :: k,mkJ 0 [(7,.dat d),(8,.int .i64 (n : Int))] 0 48⟩,[],[]⟩ H w R := by
 have hr8 : d.rows.length = 8 := hl
 have hds := h.is.slc
 have hz : d.sz = 1 := h.is.size (i := 0) (by rw [← D.Is.length (α := Int)]; omega)
 obtain ⟨c,hhd⟩ := h.hd
 have hcap : d.len ≤ c := by
  have hok := h.ok
  revert hhd
  generalize rblk d = B
  cases hok with
  | slc a c' sz rows hsp hc hlen hcell hk=>intro hhd; simp only [D.hd,Option.some.injEq,Prod.mk.injEq] at hhd; rw [← hhd.2]; exact hc
  | nil sz=>intro hhd; simp [D.hd] at hhd
  | int _ _=>intro hhd; simp [D.hd] at hhd
  | bool _=>intro hhd; simp [D.hd] at hhd
  | str _=>intro hhd; simp [D.hd] at hhd
 -- the world behind the copy
 have ad : After w0 H0 w.drew H := a.trans (after_good (Good.drew (good_start a.cell (Env.mk (fun _=>0) (fun _=>(none,0)) fun _=>Go.undef))))
 have hd' : RowW Int w0.heap.size H w.drew d := ⟨h.is,h.ok,h.ne,h.hd,h.low,h.live⟩
 obtain ⟨cur,t,hg⟩ := hd'.live
 have hrs : ∀ r,r ∈ d.rows.take n → Codec.ok Int r := fun r hr=>(rows_of h.is).1 r (List.mem_of_mem_take hr)
 have hrl : (d.rows.take n).length = n := by rw [List.length_take]; omega
 have hs : n + (d.rows.take n).length ≤ d.rows.length := by omega
 obtain ⟨q0,H',q1,q2⟩ := row_copy ad hin0 hd' hrs hs hg
 have hl1 : ∀ r,r ∈ d.rows.take n → r.length = 1 := fun r hr=>(flat_int r (hrs r hr)).1
 have hfl : (flat (d.rows.take n)).length = n := by rw [flat_len hl1]; omega
 generalize hw1 : w.drew.setRow (rblk d) (cur.toList.take (n * 1) ++ flat (d.rows.take n) ++ cur.toList.drop (n * 1 + (flat (d.rows.take n)).length)).toArray = w1 at q1 q2
 have hcell : ∀ (j : Nat) (v : Value),(flat (d.rows.take n))[j]? = some v → w.drew.cell? ((⟨rblk d,0,none⟩ : Addr).add j) = some v := fun j v hv=>by
  have := ad.cell _ _ _ (row_cells hd' (m := n) (by omega) j v hv)
  have e : (⟨rblk d,0,none⟩ : Addr).add j = ⟨rblk d,j,none⟩ := by
   unfold Addr.add; split <;> simp_all
  rw [e]; exact this
 have hcopy : ∀ ty,(Builtin.copy_ #[32,32] ty #[(d.sub n d.len).val,(d.sub 0 n).val]).run Try.prog w.drew = .ok (goInt n) w1 := fun ty=>by
  have e1 : (d.sub n d.len).val = .slice (some ⟨rblk d,n * 1,none⟩) (8 - n) (c - n) := by
   have hll : ((d.rows.drop n).take (d.len - n)).length = 8 - n := by rw [List.length_take,List.length_drop]; omega
   simp only [D.sub,D.val,hhd,Option.map_some,hval,hll,hz]
   have hne : ¬ c = n := by omega
   have hn0 : ¬ n = 0 := by omega
   simp [hne,Addr.add,hn0]
  have e2 : (d.sub 0 n).val = .slice (some ⟨rblk d,0,none⟩) n c := by
   have hll : ((d.rows.drop 0).take (n - 0)).length = n := by rw [List.length_take,List.length_drop]; omega
   simp only [D.sub,D.val,hhd,Option.map_some,hval,hll]
   simp [Addr.add]
  have hmin : Nat.min n (8 - n) = n := Nat.min_eq_left (by omega)
  rw [e1,e2]
  have := run_copy_sz (P := Try.prog) w.drew 32 32 ty 3 (rblk d) (n * 1) (8 - n) (c - n) ⟨rblk d,0,none⟩ n c 1 cur t (flat (d.rows.take n)) int_ty int_sz hg (by rw [hmin,hfl,Nat.mul_one]) hcell q0 (flat_one _)
  rw [this,hmin,hw1]
 refine at_flow (dst := rpDst) (c := 7) (w1 := w1) rp_mixed rp_calm rp_lt (rp_dst _ rfl) rp_inj (by rw [rp_size]; decide) fun E=>⟨rpVals d n,?_,?_⟩
 ·intro i o ho l T hb hil hp hI
  have hi : i < 10 := by rw [← rp_size]; exact (Array.getElem?_eq_some_iff.1 ho).1
  obtain ⟨b7,b8⟩ := rp_base E d (n : Int)
  have n9 : i ≠ 9 → 9 ∉ l := fun hne h9=>by
   refine hil (hb.closed 9 h9 i ?_)
   rw [rp_p9]
   rcases rp_ten hi with rfl | rfl | rfl | rfl | rfl | rfl | rfl | rfl | rfl | rfl <;> simp at hne ⊢
  have hsl : ∀ s,(s = 7 ∨ s = 8) → i ≠ 9 → T[s]? = (SV.denL E (mkJ 0 [(7,SV.dat d),(8,.int .i64 (n : Int))] 0 48)).toArray[s]? := fun s hs hne=>hI.old s fun j hj e=>by
   have hj9 : j ≠ 9 := fun e9=>n9 hne (by rw [← e9]; exact hj)
   have hj10 : j < 10 := by rw [← rp_size]; exact hb.nodup.2 j hj
   have : 38 ≤ rpDst j := by
    rcases rp_ten hj10 with rfl | rfl | rfl | rfl | rfl | rfl | rfl | rfl | rfl | rfl <;> first | decide | exact absurd rfl hj9
   omega
  have t7 : i ≠ 9 → T[7]? = some d.val := fun hne=>(hsl 7 (.inl rfl) hne).trans b7
  have t8 : i ≠ 9 → T[8]? = some (goInt n) := fun hne=>(hsl 8 (.inr rfl) hne).trans b8
  rcases rp_ten hi with rfl | rfl | rfl | rfl | rfl | rfl | rfl | rfl | rfl | rfl
  ·rw [if_neg (by decide)]
   intro w2
   rw [run_moveO (opK_spec rp_k0 ho).2.2,eval_tmp (t8 (by decide))]; rfl
  ·rw [if_neg (by decide)]
   intro w2
   rw [run_moveO (opK_spec rp_k1 ho).2.2,eval_tmp (t7 (by decide))]; rfl
  ·rw [if_neg (by decide)]
   intro w2
   rw [run_moveO (opK_spec rp_k2 ho).2.2,eval_tmp (t8 (by decide))]; rfl
  ·rw [if_neg (by decide)]
   intro w2
   rw [rp_p3] at hp
   have m1 : T[39]? = some d.val := hI.done 1 (hp 1 (by simp))
   have m2 : T[40]? = some (goInt n) := hI.done 2 (hp 2 (by simp))
   refine run_sliceO (opK_spec rp_k3 ho).2.2 _ w2 ?_
   simp only [Option.map_some,Option.map_none]
   rw [eval_tmp m1,eval_tmp m2]
   have := run_sub (P := Try.prog) w2 int_ty int_sz hds hhd hcap (lo := some (.int .i64 (n : Int))) (hi := none) (E := E) (l := (n : Int)) (h' := (d.len : Int)) rfl rfl (by omega) (by omega) (Int.le_refl _) hz
   rw [Int.toNat_natCast,Int.toNat_natCast] at this
   exact this
  ·rw [if_neg (by decide)]
   intro w2
   rw [run_moveO (opK_spec rp_k4 ho).2.2,eval_tmp (t7 (by decide))]; rfl
  ·rw [if_neg (by decide)]
   intro w2
   rw [run_moveO (opK_spec rp_k5 ho).2.2,eval_tmp (t8 (by decide))]; rfl
  ·rw [if_neg (by decide)]
   intro w2
   rw [rp_p6] at hp
   have m1 : T[42]? = some d.val := hI.done 4 (hp 4 (by simp))
   have m2 : T[43]? = some (goInt n) := hI.done 5 (hp 5 (by simp))
   refine run_sliceO (opK_spec rp_k6 ho).2.2 _ w2 ?_
   simp only [Option.map_some,Option.map_none]
   rw [eval_tmp m1,eval_tmp m2]
   have := run_sub (P := Try.prog) w2 int_ty int_sz hds hhd hcap (lo := none) (hi := some (.int .i64 (n : Int))) (E := E) (l := 0) (h' := (n : Int)) rfl rfl (by omega) (by omega) (by omega) hz
   rw [Int.toNat_natCast] at this
   exact this
  ·rw [if_pos rfl]
   rw [rp_p7] at hp
   have m1 : T[41]? = some (d.sub n d.len).val := hI.done 3 (hp 3 (by simp))
   have m2 : T[44]? = some (d.sub 0 n).val := hI.done 6 (hp 6 (by simp))
   refine run_copyO (opK_spec rp_k7 ho).2.2 _ _ _ fun ty=>?_
   rw [eval_tmp m1,eval_tmp m2]
   exact hcopy ty
  ·rw [if_neg (by decide)]
   intro w2
   rw [rp_p8] at hp
   have m1 : T[38]? = some (.int .i64 (n : Int)) := hI.done 0 (hp 0 (by simp))
   have m2 : T[45]? = some (.int .i64 (n : Int)) := hI.done 7 (hp 7 (by simp))
   rw [run_addO (opK_spec rp_k8 ho).2.2 _ w2 (eval_tmp m1) (eval_tmp m2)]
   have : IntKind.i64.wrap ((n : Int) + n) = ((2 * n : Nat) : Int) := by rw [wrap64 (by omega) (by omega)]; omega
   rw [this]; rfl
  ·rw [if_neg (by decide)]
   intro w2
   rw [rp_p9] at hp
   have m1 : T[46]? = some (goInt (2 * n)) := hI.done 8 (hp 8 (by simp))
   rw [run_assignO (opK_spec rp_k9 ho).2.2,eval_tmp m1]; rfl
 ·intro T l ha hI
  obtain ⟨b7,b8⟩ := rp_base E d (n : Int)
  have hpv : (d.putRow n (d.rows.take n)).val = d.val := put_row_val hds hs
  have t7 : T[7]? = some d.val := by
   rw [hI.old 7 fun j hj e=>?_]
   ·exact b7
   ·unfold rpDst at e; split at e <;> omega
  have t8 : T[8]? = some (goInt (2 * n)) := hI.done 9 (ha 9 (by rw [rp_size]; decide))
  refine stk_to (E := E) (sl := [(7,.dat (d.putRow n (d.rows.take n))),(8,.int .i64 ((2 * n : Nat) : Int))]) (n := 48) (by rw [hI.size]; rfl) (fun p hp=>?_) (fun p hp=>?_) q1.cell (hnext H' w1 q1 q2)
  ·simp only [List.mem_cons,List.not_mem_nil,or_false] at hp
   rcases hp with rfl | rfl
   ·simp only [SV.den,hpv]
    rw [Array.getD_eq_getD_getElem?,t7]; rfl
   ·simp only [SV.den]
    rw [Array.getD_eq_getD_getElem?,t8]; rfl
  ·simp only [List.mem_cons,List.not_mem_nil,or_false] at hp
   rcases hp with rfl | rfl
   ·exact ⟨q2.ok,q2.is.slc⟩
   ·trivial
theorem rp_loop {w0 : World} {H0 : HV} {B : Nat} (hin0 : ∀ x,H0 B x = none) : ∀ (k n : Nat) (d : D) (H : HV) (w : World),n * 2 ^ k = 8 → rblk d = B → After w0 H0 w H → RowW Int w0.heap.size H w d → d.to Int = List.replicate n 4096 ++ List.replicate (8 - n) 0 →
  At Try.prog (rpL d (n : Int)) H w (szR w0 H0) := by
 intro k
 induction k with
 | zero =>
  intro n d H w hn hB a h hto
  have hn8 : n = 8 := by omega
  subst hn8
  have dl : d.len = 8 := by rw [D.Is.length (α := Int),hto]; rfl
  refine at_of_runs rfl (unroll_sound rfl (goS_sound (noCtr _) (fun _=>false) [(124,38)] 100 _ ?_))
  rw [rpl_go,dl]
  refine ⟨fun hc=>absurd (of_decide_eq_true hc) (by decide),fun _=>⟨rfl,fun E H' w' g hv=>⟨H',a.trans (after_good g),fun _=>d,fun E'=>?_,?_⟩⟩⟩
  ·have : d.like most = d := D.like_self h.is hto
   simp only [this]; rfl
  ·have : d.like most = d := D.like_self h.is hto
   simp only [this]; exact hv
 | succ k ih =>
  intro n d H w hn hB a h hto
  have h2 : 2 * n * 2 ^ k = 8 := by rw [← hn,Nat.pow_succ]; simp only [Nat.mul_assoc,Nat.mul_comm,Nat.mul_left_comm]
  have hpos : 1 ≤ 2 ^ k := Nat.one_le_two_pow
  have h4 : n ≤ 4 := by
   have : 2 * n ≤ 2 * n * 2 ^ k := Nat.le_mul_of_pos_right _ hpos
   omega
  have h1 : 1 ≤ n := by
   rcases Nat.eq_zero_or_pos n with h0 | h0
   ·subst h0; simp at hn
   ·exact h0
  have dl : d.len = 8 := by rw [D.Is.length (α := Int),hto]; simp; omega
  refine at_of_runs rfl (unroll_sound rfl (goS_sound (noCtr _) (fun _=>false) [(124,38)] 100 _ ?_))
  rw [rpl_go,dl]
  refine ⟨fun hc=>?_,fun hc=>absurd (of_decide_eq_false hc) (by omega)⟩
  intro E1 H1 w1 g1 ok1
  have a1 := after_good g1
  have hE : At Try.prog ⟨⟨124,none,none,.code (.region rpId rpO true) :: [Item.inBlock 1,Item.inLoop (cA 124 [1,1,1,1,1,1,0,0,0]),Item.inBlock 0,Item.code (cA 124 [1,1,1,1,1,1,1])],mkJ 0 [(7,.dat d),(8,.int .i64 (n : Int))] 0 48⟩,[],[]⟩ H1 w1 (szR w0 H0) := by
   refine rp_round (a.trans a1) (by rw [hB]; exact hin0) (h.mono a1) dl h1 h4 fun H' w' a' h'=>?_
   have hc : At Try.prog (rpC (d.putRow n (d.rows.take n)) ((2 * n : Nat) : Int)) H' w' (szR w0 H0) := by
    refine at_of_runs rfl (exec_sound (noCtr _) 100 _ ?_)
    rw [rpc_go]
    intro E2 H2 w2 g2 ok2
    have a2 := after_good g2
    refine ih (2 * n) (d.putRow n (d.rows.take n)) H2 w2 h2 hB (a'.trans a2) (h'.mono a2) ?_ E2 ok2 g2.cell
    have e1 : (d.rows.take n).map (Codec.dec (α := Int)) = (d.to Int).take n := by simp only [D.to,List.map_take]
    have e2 : (d.rows.take n).length = n := by rw [List.length_take]; have : d.rows.length = 8 := dl; omega
    rw [put_row_to,e1,e2,hto]
    have f1 : (List.replicate n (4096 : Int) ++ List.replicate (8 - n) 0).take n = List.replicate n 4096 := by rw [List.take_left' (by simp)]
    rw [f1,← List.drop_drop,List.drop_left' (by simp),List.drop_replicate,List.replicate_append_replicate,show n + n = 2 * n by omega,show 8 - n - n = 8 - 2 * n by omega]
   exact hc
  rw [← rp_reg] at hE
  exact hE E1 ok1 g1.cell
theorem ctMuOk : Ctrs.Ok Try.prog ctMu := by
 intro x hx
 rw [List.mem_singleton.1 hx]; exact ctrOf_ok lawMul
theorem rp_call : callAt (oA 124 [1,1,1,1,1,0]) 2 = some (.copy,[.tmp 31,.tmp 32],[32,32],some 33) := by kernel_rfl
def rpK (d x : D) : Conf := ⟨⟨124,some (oA 124 [1,1,1,1,1,0],[2,3]),none,[Item.code (cA 124 [1,1,1,1,1,1])],mkJ 0 [(7,.dat d),(31,.dat d),(32,.dat x)] 0 48⟩,[],[]⟩
theorem rp_first {w0 w : World} {H0 H : HV} (a : After w0 H0 w H) {d x : D} (hin0 : ∀ x,H0 (rblk d) x = none) (h : RowW Int w0.heap.size H w d) (hto : d.to Int = List.replicate 8 0) (hx : x.Ok H) (hxr : x.rows = [[.int .i64 4096]]) (hxs : x.IsSlc) (hxz : x.sz = 1) :
  At Try.prog (rpK d x) H w (szR w0 H0) := by
 have dl : d.len = 8 := by rw [D.Is.length (α := Int),hto]; rfl
 have hr8 : d.rows.length = 8 := dl
 have hds := h.is.slc
 obtain ⟨c,hhd⟩ := h.hd
 obtain ⟨xh,xz,xr,rfl⟩ := hxs
 simp only [D.rows,D.sz] at hxr hxz
 subst hxr; subst hxz
 obtain ⟨xa,xc,hxh,hxsp,hxc,hxcell⟩ : ∃ a c,xh = some (a,c) ∧ a.spot = none ∧ 1 ≤ c ∧ H a.block a.off = some (.int .i64 4096) := by
  cases hx with
  | slc a c sz rows hsp hc hlen hcell hk=>exact ⟨a,c,rfl,hsp (by simp),hc,by have := hcell 0 0 _ _ rfl rfl; simpa [D.val] using this⟩
 subst hxh
 obtain ⟨cur,t,hg⟩ := h.live
 have hrs : ∀ r,r ∈ [[D.int .i64 4096]] → Codec.ok Int r := fun r hr=>by rw [List.mem_singleton.1 hr]; exact ok_int _
 obtain ⟨q0,H',q1,q2⟩ := row_copy a hin0 h (s := 0) hrs (by rw [hr8]; decide) hg
 generalize hw1 : w.setRow (rblk d) (cur.toList.take (0 * 1) ++ flat [[D.int .i64 4096]] ++ cur.toList.drop (0 * 1 + (flat [[D.int .i64 4096]]).length)).toArray = w1 at q1 q2
 have hpv : (d.putRow 0 [[D.int .i64 4096]]).val = d.val := put_row_val hds (by rw [hr8]; decide)
 have hpt : (d.putRow 0 [[D.int .i64 4096]]).to Int = List.replicate 1 4096 ++ List.replicate (8 - 1) 0 := by rw [put_row_to,hto]; rfl
 intro E ok hin
 refine stk_builtin (rest := []) (u := goInt 1) (w' := w1) (E' := E) rp_call (fun ty=>?_) (fun _ _ _=>rfl) ?_
 ·have e1 : d.val = .slice (some ⟨rblk d,0 * 1,none⟩) 8 c := by
   have hv : d.val = hval d.hd d.len := by obtain ⟨x,y,z,rfl⟩ := hds; rfl
   rw [hv,hhd,dl]; rfl
  have e2 : (D.slc (some (xa,xc)) 1 [[D.int .i64 4096]]).val = .slice (some xa) 1 xc := rfl
  have := run_copy_sz (P := Try.prog) w 32 32 ty 3 (rblk d) (0 * 1) 8 c xa 1 xc 1 cur t (flat [[D.int .i64 4096]]) int_ty int_sz hg rfl (fun j v hv=>by
   have hj : j = 0 := by
    cases j with
    | zero=>rfl
    | succ j=>simp [flat] at hv
   subst hj
   have hv : Value.int .i64 4096 = v := by simpa [flat,D.val] using hv
   subst hv
   have hc := hin _ _ _ hxcell
   have e : xa.add 0 = ⟨xa.block,xa.off,none⟩ := by
    obtain ⟨p,q,r⟩ := xa
    simp only at hxsp; subst hxsp
    simp [Addr.add]
   rw [e]; exact hc) q0 (flat_one _)
  show (builtin .copy _ ty #[] #[(SV.dat d).den E,(SV.dat (D.slc (some (xa,xc)) 1 [[D.int .i64 4096]])).den E]).run _ _ = _
  simp only [SV.den]
  rw [e1,e2]
  simp only [builtin,Sem.run_bind,Result.andThen_ok,Sem.run_pure]
  rw [this,hw1]
  rfl
 ·have hA : At Try.prog (rpA (d.putRow 0 [[D.int .i64 4096]])) H' w1 (szR w0 H0) := by
   refine at_of_runs rfl (goM_sound (noCtr _) [] [(124,MidK.copy)] 100 _ ?_)
   rw [rpa_go]
   intro E2 H2 w2 g2 ok2
   have a2 := after_good g2
   exact rp_loop (B := rblk d) hin0 3 1 (d.putRow 0 [[D.int .i64 4096]]) H2 w2 rfl rfl (q1.trans a2) (q2.mono a2) hpt E2 ok2 g2.cell
  refine stk_to (E := E) (sl := [(7,.dat (d.putRow 0 [[D.int .i64 4096]])),(33,.int .i64 1)]) (n := 48) rfl (fun p hp=>?_) (fun p hp=>?_) q1.cell hA
  ·simp only [List.mem_cons,List.not_mem_nil,or_false] at hp
   rcases hp with rfl | rfl
   ·simp only [SV.den,hpv]; rfl
   ·rfl
  ·simp only [List.mem_cons,List.not_mem_nil,or_false] at hp
   rcases hp with rfl | rfl
   ·exact ⟨q2.ok,q2.is.slc⟩
   ·trivial
theorem lawSz : Law Try.prog 87 (rdNone.sp spMost) := by
 refine law_in _ (by kernel_rfl) fun H w _ hok hp=>?_
 apply goM_sound ctMuOk [] [(124,MidK.copy)] 600
 rw [show rdNone.canon () = [] from rfl,csz_in]
 refine holds_all.2 fun hs=>?_
 have hl : ∀ h,((D.slc h 1 [[D.int .i64 4096]]).len : Int) = 1 := fun _=>rfl
 rw [hl]
 refine ⟨fun h=>Bool.noConfusion h,fun _=>⟨⟨⟨by decide,by decide⟩,by decide,by decide⟩,fun hs1=>⟨fun h=>absurd (of_decide_eq_true h) (by decide),fun _=>⟨fun h=>absurd (of_decide_eq_true h) (by decide),fun _=>⟨⟨by decide,rfl,by decide,by decide⟩,fun hs2=>?_⟩⟩⟩⟩⟩
 have hn : Int.toNat (IntKind.i64.wrap (Int.emod (IntKind.u64.wrap 1 * IntKind.u64.wrap 8) 18446744073709551616)) = 8 := by decide
 rw [hn]
 intro E1 H1 w1 g1 ok1
 generalize hxd : D.slc (hs 0 0).hd 1 [[D.int .i64 4096]] = xd at *
 generalize hdd : D.slc (hs2 0 0).hd 1 (List.replicate 8 [D.int .i64 0]) = dd at *
 obtain ⟨H2,le2,g2,xok,_⟩ := g1.publish (k := 1001) (e := 3) (d := xd) rfl
 have hds : dd.Is Int ∧ dd.to Int = List.replicate 8 0 := by
  rw [← hdd]
  exact is_of rfl ⟨fun r hr=>by rw [List.eq_of_mem_replicate hr]; exact ok_int 0,by rw [List.map_replicate]; rfl⟩
 obtain ⟨H3,a3,le3,hR,hdv⟩ := pub_row (α := Int) (k := 2030) (e := 3) (d := dd) g2 rfl hds.1 (by rw [← hdd]; exact List.cons_ne_nil _ _)
 have hxv : (SV.vec 1001).den E1 = xd.val := by
  obtain ⟨⟨h,sz,rows,e,h2⟩,_⟩ := g2.own 1001 (.pub xd) (List.mem_cons_of_mem _ List.mem_cons_self)
  rw [e]
  simp only [SV.den,h2]; rfl
 have hno : ∀ x,H (rblk dd) x = none := fun x=>by
  obtain ⟨h,sz,rows,e,hv,how,_,_,ha⟩ := g1.own 2030 (.arr 3 dd) List.mem_cons_self
  cases hx : H (rblk dd) x with
  | none=>rfl
  | some u =>
   have h1 := g1.ext _ _ _ hx
   obtain ⟨c,hc⟩ := hR.hd
   rw [e] at hc
   simp only [D.hd] at hc
   obtain ⟨e1,e2⟩ := ha _ _ hc
   have e3 : E1.b 2030 = rblk dd := by rw [e]; exact (congrArg Addr.block e1).symm
   have := e2 x
   rw [e3,h1] at this; cases this
 have hE : At Try.prog (rpK dd xd) H3 w1 (szR w H) := rp_first a3 hno hR hds.2 (xok.mono le3) (by rw [← hxd]; rfl) (by rw [← hxd]; exact ⟨_,_,_,rfl⟩) (by rw [← hxd]; rfl)
 refine stk_call (E := E1) (sl := [(7,.dat dd),(31,.dat dd),(32,.dat xd)]) (n := 48) rfl (fun p hp=>?_) (fun p hp=>?_) a3.cell (R1 := szR w H) hE ?_
 ·simp only [List.mem_cons,List.not_mem_nil,or_false] at hp
  rcases hp with rfl | rfl | rfl
  ·simp only [SV.den]; rw [← hdv]; rfl
  ·simp only [SV.den]; rw [← hdv]; rfl
  ·simp only [SV.den]; rw [← hxv]; rfl
 ·simp only [List.mem_cons,List.not_mem_nil,or_false] at hp
  rcases hp with rfl | rfl | rfl
  ·exact ⟨hR.ok,hds.1.slc⟩
  ·exact ⟨hR.ok,hds.1.slc⟩
  ·exact ⟨xok.mono le3,by rw [← hxd]; exact ⟨_,_,_,rfl⟩⟩
 ·intro u w2 ⟨H4,a4,ds,hu,hok⟩
  have hE2 : At Try.prog (szB ((ds 0).like most)) H4 w2 (szR w H) := by
   refine at_of_runs rfl (exec_sound (noCtr _) 100 _ ?_)
   rw [szb_go]
   exact ⟨rfl,fun E H' w' g hv=>⟨H',a4.trans (after_good g),ds,fun E'=>rfl,hv⟩⟩
  refine stk_aw (aw := none) (stk_to (E := E1) (sl := [(2,.dat ((ds 0).like most))]) (n := 3) rfl (fun p hp=>?_) (fun p hp=>?_) a4.cell hE2)
  ·rw [List.mem_singleton.1 hp,hu E1]; rfl
  ·rw [List.mem_singleton.1 hp]; exact hok
end Sv
end
noncomputable section
open Go Go.Proofs Sx
namespace Sx
theorem ck_range {r : Rl} (h : ckRl r = 0) : checkTarget r.near = 0 ∧ checkTarget r.far = 0 ∧ checkSource r.src = 0 ∧ formedR r = true := by
 unfold ckRl at h
 by_cases h1 : checkTarget r.near ≠ 0
 ·rw [if_pos h1] at h; exact absurd h h1
 rw [if_neg h1] at h
 by_cases h2 : checkTarget r.far ≠ 0
 ·rw [if_pos h2] at h; exact absurd h h2
 rw [if_neg h2] at h
 by_cases h3 : checkSource r.src ≠ 0
 ·rw [if_pos h3] at h; exact absurd h h3
 rw [if_neg h3] at h
 by_cases h4 : formedR r = false
 ·rw [if_pos h4] at h; cases h
 exact ⟨by simpa using h1,by simpa using h2,by simpa using h3,by simpa using h4⟩
theorem tgt_range {t : Tgt} (h : checkTarget t = 0) : 0 ≤ t.applied ∧ t.applied ≤ t.stored ∧ t.stored ≤ 1073741824 ∧ 0 ≤ t.epoch ∧ t.epoch ≤ 1073741824 := by
 unfold checkTarget at h
 split at h
 ·cases h
 ·rename_i h1
  split at h
  ·cases h
  ·rename_i h2
   have : okTime t.epoch = true := by
    cases he : okTime t.epoch with
    | true=>rfl
    | false=>exact absurd (.inl he) h1
   simp only [okTime,Bool.and_eq_true,decide_eq_true_eq] at this
   omega
theorem ret_rl {P : Program} {w : World} {H : HV} {a b c d e f g h i j k l m : Int} {X Y : SV} {os : List Int} {ks : List Cy} {r : Rl × Int} (hx : Stands Int X os) (hy : Stands Cy Y ks) (hr : r = (⟨⟨a,b,c,d⟩,⟨e,f,g,h⟩,⟨i,j,os,k,l⟩,ks⟩,m)) :
  (Tree.ret (.tup [.agg [.int .i64 a,.int .i64 b,.int .i64 c,.int .i64 d,.int .i64 e,.int .i64 f,.int .i64 g,.int .i64 h,.int .i64 i,.int .i64 j,X,.int .i64 k,.int .i64 l,Y],.int .i64 m])).holds P ⟨w,H⟩ (RetD w H fun ds=>.tup [.agg (rlL (ds 0) (ds 1) r.1),.int .i64 r.2]) := by
 subst hr
 obtain ⟨p,q,hs⟩ := rlL_sel (a := a) (b := b) (c := c) (d := d) (e := e) (f := f) (g := g) (h := h) (i := i) (j := j) (k := k) (l := l) hx hy rfl
 exact ret_se (fun i=>match i with | 0=>p | _=>q) (se_tup (.cons (se_agg hs) (.cons (se_int rfl) .nil)))
end Sx
namespace Sv
theorem ctCkOk : Ctrs.Ok Try.prog ctCk := by
 intro x hx
 simp only [ctCk,List.mem_cons,List.not_mem_nil,or_false] at hx
 rcases hx with rfl | rfl | rfl | rfl | rfl | rfl | rfl
 ·exact ctrOf_ok lawCT1
 ·exact ctrOf_ok lawCS1
 ·exact ctrOf_ok lawSz
 ·exact ctrOf_ok lawOff
 ·exact ctrOf_ok lawLead
 ·exact ctrOf_ok lawCyCk
 ·exact ctrOf_ok lawEqI
theorem ctFmOk : Ctrs.Ok Try.prog ctFm := by
 intro x hx
 simp only [ctFm,List.mem_cons,List.not_mem_nil,or_false] at hx
 rcases hx with rfl | rfl | rfl | rfl | rfl
 ·exact ctrOf_ok lawSz
 ·exact ctrOf_ok lawOff
 ·exact ctrOf_ok lawLead
 ·exact fCtr_ok lawAnyCy
 ·exact ctrOf_ok lawEqI
theorem ctCkROk : Ctrs.Ok Try.prog ctCkR := by
 intro x hx
 simp only [ctCkR,List.mem_cons,List.not_mem_nil,or_false] at hx
 rcases hx with rfl | rfl | rfl
 ·exact ctrOf_ok lawCT2
 ·exact ctrOf_ok lawCS2
 ·exact ctrOf_ok lawFmR
section
variable {H : HV} {w : World} {a1 a2 a3 a4 b1 b2 b3 b4 e s st ap : Int} {o k : D}
theorem ck_loop (hx : RlD.Ok ⟨⟨a1,a2,a3,a4⟩,⟨b1,b2,b3,b4⟩,⟨e,s,o,st,ap⟩,k⟩) (h : Hd) (e1 e2 e3 : Int) :
  Runs Try.prog ⟨w,H⟩ (ckL ⟨⟨a1,a2,a3,a4⟩,⟨b1,b2,b3,b4⟩,⟨e,s,o,st,ap⟩,k⟩ h e1 e2 e3 0) (RetS w H (.int .i64 (if e1 ≠ 0 then e1 else if e2 ≠ 0 then e2 else if e3 ≠ 0 then e3 else fmRes (RlD.rl ⟨⟨a1,a2,a3,a4⟩,⟨b1,b2,b3,b4⟩,⟨e,s,o,st,ap⟩,k⟩)))) := by
 have hc0 : (D.slc h 1 [[D.int .i64 e1],[D.int .i64 e2],[D.int .i64 e3]]).HasCell 0 0 (.int .i64) := ⟨e1,rfl⟩
 have hc1 : (D.slc h 1 [[D.int .i64 e1],[D.int .i64 e2],[D.int .i64 e3]]).HasCell 1 0 (.int .i64) := ⟨e2,rfl⟩
 have hc2 : (D.slc h 1 [[D.int .i64 e1],[D.int .i64 e2],[D.int .i64 e3]]).HasCell 2 0 (.int .i64) := ⟨e3,rfl⟩
 have g0 : (D.slc h 1 [[D.int .i64 e1],[D.int .i64 e2],[D.int .i64 e3]]).getInt 0 0 = e1 := rfl
 have g1 : (D.slc h 1 [[D.int .i64 e1],[D.int .i64 e2],[D.int .i64 e3]]).getInt 1 0 = e2 := rfl
 have g2 : (D.slc h 1 [[D.int .i64 e1],[D.int .i64 e2],[D.int .i64 e3]]).getInt 2 0 = e3 := rfl
 have hl : ((D.slc h 1 [[D.int .i64 e1],[D.int .i64 e2],[D.int .i64 e3]]).len : Int) = 3 := rfl
 refine unroll_sound rfl (goS_sound ctCkOk (fun _=>false) [(58,2)] 100 _ ?_)
 rw [ck0_go,hl,g0]
 refine ⟨fun _=>⟨⟨by decide,by decide,rfl⟩,⟨hc0,rfl⟩,fun c1=>ret_int ?_,fun c1=>?_⟩,fun h=>Bool.noConfusion h⟩
 ·have c1 : e1 ≠ 0 := by simpa using c1
  rw [if_pos c1]
 have c1 : ¬e1 ≠ 0 := by simpa using c1
 rw [if_neg c1]
 show Runs _ _ (ckL ⟨⟨a1,a2,a3,a4⟩,⟨b1,b2,b3,b4⟩,⟨e,s,o,st,ap⟩,k⟩ h e1 e2 e3 1) _
 refine unroll_sound rfl (goS_sound ctCkOk (fun _=>false) [(58,2)] 100 _ ?_)
 rw [ck1_go,hl,g1]
 refine ⟨fun _=>⟨⟨by decide,by decide,rfl⟩,⟨hc1,rfl⟩,fun c2=>ret_int ?_,fun c2=>?_⟩,fun h=>Bool.noConfusion h⟩
 ·have c2 : e2 ≠ 0 := by simpa using c2
  rw [if_pos c2]
 have c2 : ¬e2 ≠ 0 := by simpa using c2
 rw [if_neg c2]
 show Runs _ _ (ckL ⟨⟨a1,a2,a3,a4⟩,⟨b1,b2,b3,b4⟩,⟨e,s,o,st,ap⟩,k⟩ h e1 e2 e3 2) _
 refine unroll_sound rfl (goS_sound ctCkOk (fun _=>false) [(58,2)] 100 _ ?_)
 rw [ck2_go,hl,g2]
 refine ⟨fun _=>⟨⟨by decide,by decide,rfl⟩,⟨hc2,rfl⟩,fun c3=>ret_int ?_,fun c3=>?_⟩,fun h=>Bool.noConfusion h⟩
 ·have c3 : e3 ≠ 0 := by simpa using c3
  rw [if_pos c3]
 have c3 : ¬e3 ≠ 0 := by simpa using c3
 rw [if_neg c3]
 show Runs _ _ (ckL ⟨⟨a1,a2,a3,a4⟩,⟨b1,b2,b3,b4⟩,⟨e,s,o,st,ap⟩,k⟩ h e1 e2 e3 3) _
 refine unroll_sound rfl (goS_sound ctCkOk (fun _=>false) [(58,2)] 100 _ ?_)
 rw [ck3_go]
 exact ⟨fun h=>Bool.noConfusion h,fun _=>fmA_runs hx ctFmOk⟩
end
theorem lawCk : Law Try.prog 17 (rdRl.one.sp spCkRl) := by
 refine law_in _ (by kernel_rfl) fun H w ⟨⟨a1,a2,a3,a4⟩,⟨b1,b2,b3,b4⟩,⟨e,s,o,st,ap⟩,k⟩ hok hp=>?_
 have hx := hp _ (List.mem_singleton.2 rfl)
 apply exec_sound ctCkOk 300
 rw [show rdRl.one.canon ⟨⟨a1,a2,a3,a4⟩,⟨b1,b2,b3,b4⟩,⟨e,s,o,st,ap⟩,k⟩ = [.agg [.int .i64 a1,.int .i64 a2,.int .i64 a3,.int .i64 a4,.int .i64 b1,.int .i64 b2,.int .i64 b3,.int .i64 b4,.int .i64 e,.int .i64 s,.dat o,.int .i64 st,.int .i64 ap,.dat k]] from rfl,ck_in]
 exact fun hs=>⟨hx.1,ck_loop hx (hs 9 0).hd _ _ _⟩
theorem lawCkRf : Law Try.prog 18 (rdRl.one.sp spCkRl) := by
 refine law_in _ (by kernel_rfl) fun H w ⟨⟨a1,a2,a3,a4⟩,⟨b1,b2,b3,b4⟩,⟨e,s,o,st,ap⟩,k⟩ hok hp=>?_
 have hx := hp _ (List.mem_singleton.2 rfl)
 apply exec_sound ctCkROk 300
 rw [show rdRl.one.canon ⟨⟨a1,a2,a3,a4⟩,⟨b1,b2,b3,b4⟩,⟨e,s,o,st,ap⟩,k⟩ = [.agg [.int .i64 a1,.int .i64 a2,.int .i64 a3,.int .i64 a4,.int .i64 b1,.int .i64 b2,.int .i64 b3,.int .i64 b4,.int .i64 e,.int .i64 s,.dat o,.int .i64 st,.int .i64 ap,.dat k]] from rfl,ckR_in]
 have hd : ckRl (RlD.rl ⟨⟨a1,a2,a3,a4⟩,⟨b1,b2,b3,b4⟩,⟨e,s,o,st,ap⟩,k⟩) = (if checkTarget ⟨a1,a2,a3,a4⟩ ≠ 0 then checkTarget ⟨a1,a2,a3,a4⟩ else if checkTarget ⟨b1,b2,b3,b4⟩ ≠ 0 then checkTarget ⟨b1,b2,b3,b4⟩ else if checkSource (SrcD.src ⟨e,s,o,st,ap⟩) ≠ 0 then checkSource (SrcD.src ⟨e,s,o,st,ap⟩) else if formedR (RlD.rl ⟨⟨a1,a2,a3,a4⟩,⟨b1,b2,b3,b4⟩,⟨e,s,o,st,ap⟩,k⟩) = false then 3 else 0) := rfl
 refine ⟨fun c1=>ret_int ?_,fun c1=>⟨fun c2=>ret_int ?_,fun c2=>⟨hx.1,fun c3=>ret_int ?_,fun c3=>⟨hx,fun c4=>ret_int ?_,fun c4=>ret_int ?_⟩⟩⟩⟩
 all_goals simp only [bne_iff_ne,ne_eq,bne_eq_false_iff_eq,Bool.not_eq_true',Bool.not_eq_false'] at c1
 ·rw [hd,if_pos c1]
 all_goals simp only [bne_iff_ne,ne_eq,bne_eq_false_iff_eq] at c2
 ·rw [hd,if_neg (by simp [c1]),if_pos c2]
 all_goals simp only [bne_iff_ne,ne_eq,bne_eq_false_iff_eq] at c3
 ·rw [hd,if_neg (by simp [c1]),if_neg (by simp [c2]),if_pos c3]
 ·have c4 : formedR (RlD.rl ⟨⟨a1,a2,a3,a4⟩,⟨b1,b2,b3,b4⟩,⟨e,s,o,st,ap⟩,k⟩) = false := by simpa using c4
  rw [hd,if_neg (by simp [c1]),if_neg (by simp [c2]),if_neg (by simp [c3]),if_pos c4]
 ·have c4 : formedR (RlD.rl ⟨⟨a1,a2,a3,a4⟩,⟨b1,b2,b3,b4⟩,⟨e,s,o,st,ap⟩,k⟩) = true := by simpa using c4
  rw [hd,if_neg (by simp [c1]),if_neg (by simp [c2]),if_neg (by simp [c3]),if_neg (by simp [c4])]
theorem ctLgOk : Ctrs.Ok Try.prog ctLg := by
 intro x hx
 simp only [ctLg,List.mem_cons,List.not_mem_nil,or_false] at hx
 rcases hx with rfl | rfl
 ·exact ctrOf_ok lawCk
 ·exact ctrOf_ok lawCkRf
theorem ctNwOk : Ctrs.Ok Try.prog ctNw := by
 intro x hx
 simp only [ctNw,List.mem_cons,List.not_mem_nil,or_false] at hx
 rcases hx with h1 | h1 | rfl | rfl
 ·subst h1; exact ctrOf_ok lawNewT1
 ·subst h1; exact ctrOf_ok lawNewS1
 ·exact ctrOf_ok lawNewT2
 ·exact ctrOf_ok lawNewS2
theorem lag_wrap {r : Rl} (h : ckRl r = 0) : IntKind.i64.wrap (r.near.applied - r.far.applied) = lagRl r := by
 obtain ⟨h1,h2,_,_⟩ := ck_range h
 obtain ⟨a,b,c,_⟩ := tgt_range h1
 obtain ⟨d,e,f,_⟩ := tgt_range h2
 unfold lagRl
 rw [if_neg (by simp [h]),wrap64 (by omega) (by omega)]
theorem lawLag : Law Try.prog 19 (rdRl.one.sp spLagRl) := by
 refine law_in _ (by kernel_rfl) fun H w ⟨⟨a1,a2,a3,a4⟩,⟨b1,b2,b3,b4⟩,⟨e,s,o,st,ap⟩,k⟩ hok hp=>?_
 have hx := hp _ (List.mem_singleton.2 rfl)
 apply exec_sound ctLgOk 300
 rw [show rdRl.one.canon ⟨⟨a1,a2,a3,a4⟩,⟨b1,b2,b3,b4⟩,⟨e,s,o,st,ap⟩,k⟩ = [.agg [.int .i64 a1,.int .i64 a2,.int .i64 a3,.int .i64 a4,.int .i64 b1,.int .i64 b2,.int .i64 b3,.int .i64 b4,.int .i64 e,.int .i64 s,.dat o,.int .i64 st,.int .i64 ap,.dat k]] from rfl,lg_in]
 refine ⟨hx,fun c=>ret_int ?_,fun c=>ret_int (lag_wrap (by simpa using c))⟩
 have c : ckRl (RlD.rl ⟨⟨a1,a2,a3,a4⟩,⟨b1,b2,b3,b4⟩,⟨e,s,o,st,ap⟩,k⟩) ≠ 0 := by simpa using c
 unfold lagRl; rw [if_pos c]
theorem newS_ok {e f a : Int} (h : (newTarget e f a).2 = 0) : (newSource e f a).2 = 0 ∧ (newSource e f a).1.offered = [] := by
 unfold newTarget at h
 unfold newSource
 split at h
 ·rename_i hr; rw [if_pos hr]; exact ⟨rfl,rfl⟩
 ·cases h
theorem lawNew : Law Try.prog 14 (rdQuad.sp spNewRl) := by
 refine law_in _ (by kernel_rfl) fun H w ⟨a1,a2,a3,a4⟩ hok hp=>?_
 apply exec_sound ctNwOk 300
 rw [show rdQuad.canon (a1,a2,a3,a4) = [.int .i64 a1,.int .i64 a2,.int .i64 a3,.int .i64 a4] from rfl,nw_in]
 have hz : ∀ {m : Int},newRl a1 a2 a3 a4 = (zRl,m) → newRl a1 a2 a3 a4 = (⟨⟨0,0,0,0⟩,⟨0,0,0,0⟩,⟨0,0,[],0,0⟩,[]⟩,m) := fun h=>h
 refine fun hs=>⟨fun c1=>ret_rl stands_nils stands_nils (hz ?_),fun c1 hs1=>⟨fun c2=>ret_rl stands_nils stands_nils (hz ?_),fun c2=>⟨fun c3=>ret_rl stands_nils stands_nils (hz ?_),fun c3 hs2=>ret_rl (r := newRl a1 a2 a3 a4) stands_like stands_nils ?_⟩⟩⟩
 ·have c1 : (newTarget a1 a2 a4).2 ≠ 0 := by simpa using c1
  unfold newRl; rw [if_pos c1]
 ·have c1 : ¬(newTarget a1 a2 a4).2 ≠ 0 := by simpa using c1
  have c2 : (newTarget a1 a3 a4).2 ≠ 0 := by simpa using c2
  unfold newRl; rw [if_neg c1,if_pos c2]
 ·have c1 : ¬(newTarget a1 a2 a4).2 ≠ 0 := by simpa using c1
  have c2 : ¬(newTarget a1 a3 a4).2 ≠ 0 := by simpa using c2
  unfold newRl; rw [if_neg c1,if_neg c2,if_pos (of_decide_eq_true c3)]
 ·have c1 : ¬(newTarget a1 a2 a4).2 ≠ 0 := by simpa using c1
  have c2 : (newTarget a1 a3 a4).2 = 0 := by simpa using c2
  unfold newRl; rw [if_neg c1,if_neg (by simp [c2]),if_neg (of_decide_eq_false c3),(newS_ok c2).1]
end Sv
end
noncomputable section
open Go Go.Proofs Sx
namespace Sv
def bgN (x : RlD) (o q : D) : Mem := [(1517,.arr 3 o),(500,.arr 65 q),(502,OBlk.cells 115 [.int .i64 x.near.epoch,.int .i64 x.near.site,.int .i64 x.near.stored,.int .i64 x.near.applied,.int .i64 x.far.epoch,.int .i64 x.far.site,.int .i64 x.far.stored,.int .i64 x.far.applied,
 .int .i64 x.src.e,.int .i64 x.src.s,.vec 1517,.int .i64 x.src.st,.int .i64 x.src.ap,.vec 500])]
section
variable (d s o k : D) (b : Nat) (j a a1 a2 a3 a4 b1 b2 b3 b4 e si st ap ep na : Int)
end
def rlZ : List SV := [.int .i64 0,.int .i64 0,.int .i64 0,.int .i64 0,.int .i64 0,.int .i64 0,.int .i64 0,.int .i64 0,.int .i64 0,.int .i64 0,SV.nils,.int .i64 0,.int .i64 0,SV.nils]
def rlV (x : RlD) (O K : SV) : List SV := [.int .i64 x.near.epoch,.int .i64 x.near.site,.int .i64 x.near.stored,.int .i64 x.near.applied,.int .i64 x.far.epoch,.int .i64 x.far.site,.int .i64 x.far.stored,.int .i64 x.far.applied,.int .i64 x.src.e,.int .i64 x.src.s,O,.int .i64 x.src.st,.int .i64 x.src.ap,K]
section
variable (d s o k q r : D) (b : Nat) (j a a1 a2 a3 a4 b1 b2 b3 b4 e si st ap ep na : Int)
end

def ctAp : Ctrs := [(17,ctrOf (rdRl.one.sp spCkRl)),(87,ctrOf (rdNone.sp spMost)),(73,ctrOf ((rdCy.two rdD).sp spCyCk)),(89,ctrOf ((rdSrc.two rdInt).sp spOffer)),(80,ctrOf ((rdSrc.two rdMsg).sp spLearn)),(90,ctrOf (rdCy.one.sp spCpC))]
section
variable (d s o k p q mb ml : D) (b : Nat) (j a a1 a2 a3 a4 b1 b2 b3 b4 e si st ap ep na cb cn ct mk mf mt mn mv me : Int)
theorem apl_in : goS Try.prog ctAp (fun _=>false) [(62,1)] 400 (entry Try.prog 44 [.agg [.int .i64 a1,.int .i64 a2,.int .i64 a3,.int .i64 a4,.int .i64 b1,.int .i64 b2,.int .i64 b3,.int .i64 b4,.int .i64 e,.int .i64 si,.dat o,.int .i64 st,.int .i64 ap,.dat k],.agg [.int .i64 cb,.int .i64 cn,.int .i64 ct,.dat p,.dat q]]) =
 Tree.need (RlD.Ok (RlD.mk (Tgt.mk a1 a2 a3 a4) (Tgt.mk b1 b2 b3 b4) (SrcD.mk e si o st ap) k))
 (.br (ckRl (RlD.rl (RlD.mk (Tgt.mk a1 a2 a3 a4) (Tgt.mk b1 b2 b3 b4) (SrcD.mk e si o st ap) k)) != 0)
 (.ret
 (SV.tup
 [.agg
 [.int .i64 0,.int .i64 0,.int .i64 0,.int .i64 0,
 .int .i64 0,.int .i64 0,.int .i64 0,.int .i64 0,
 .int .i64 0,.int .i64 0,.nils,.int .i64 0,.int .i64 0,.nils],
 .nils,
 .int .i64
 (ckRl (RlD.rl (RlD.mk (Tgt.mk a1 a2 a3 a4) (Tgt.mk b1 b2 b3 b4) (SrcD.mk e si o st ap) k)))]))
 (.all fun hs =>
 .need
 (CyD.Ok (CyD.mk cb cn ct p q) ∧ D.Is Int (D.like (hs 1 0) most) ∧ D.len (D.like (hs 1 0) most) ≤ 1048576)
 (.br (cyErr (CyD.cy (CyD.mk cb cn ct p q)) (D.to Int (D.like (hs 1 0) most)) != 0)
 (.ret
 (SV.tup
 [.agg
 [.int .i64 0,.int .i64 0,.int .i64 0,.int .i64 0,
 .int .i64 0,.int .i64 0,.int .i64 0,.int .i64 0,
 .int .i64 0,.int .i64 0,.nils,.int .i64 0,.int .i64 0,
 .nils],
 .nils,.int .i64 (cyErr (CyD.cy (CyD.mk cb cn ct p q)) (D.to Int (D.like (hs 1 0) most)))]))
 (.br (decide (cn ≤ a4))
 (.ret
 (SV.tup
 [.agg
 [.int .i64 0,.int .i64 0,.int .i64 0,.int .i64 0,
 .int .i64 0,.int .i64 0,.int .i64 0,.int .i64 0,
 .int .i64 0,.int .i64 0,.nils,.int .i64 0,.int .i64 0,
 .nils],
 .nils,.int .i64 8]))
 (.br (decide (cb > a4))
 (.ret
 (SV.tup
 [.agg
 [.int .i64 0,.int .i64 0,.int .i64 0,.int .i64 0,
 .int .i64 0,.int .i64 0,.int .i64 0,.int .i64 0,
 .int .i64 0,.int .i64 0,.nils,.int .i64 0,.int .i64 0,
 .nils],
 .nils,.int .i64 15]))
 (.leaf
 (Conf.mk
 (SFrm.mk 62 none none [Item.code (cA 62 [0]),Item.code (cA 62 [1])]
 (mkJ 1
 [(0,
 .agg
 [.int .i64 a1,.int .i64 a2,.int .i64 a3,.int .i64 a4,
 .int .i64 b1,.int .i64 b2,.int .i64 b3,
 .int .i64 b4,.int .i64 e,.int .i64 si,.dat o,
 .int .i64 st,.int .i64 ap,.dat k])]
 0 23))
 [SFrm.mk 44 (some (oA 44 [1,1,1,1,0],[2])) (some 43)
 [Item.code (cA 44 [1,1,1,1,1])] (mkJ 0 [(3,.ptr 0 0),(4,.ptr 1 0)] 0 106)]
 [(0,
 OBlk.cells 65
 [.int .i64 cb,.int .i64 cn,.int .i64 ct,.dat p,.dat q]),
 (1,
 OBlk.cells 37
 [.int .i64 0,.int .i64 0,.int .i64 0,.int .i64 0,
 .int .i64 0,.int .i64 0,.int .i64 0,.int .i64 0,
 .int .i64 0,.int .i64 0,.nils,.int .i64 0,
 .int .i64 0,.nils])]))))))) := by kernel_rfl
theorem cln_in : goS Try.prog ctAp (fun _=>false) [(62,1)] 400 (entry Try.prog 31 [.agg [.int .i64 a1,.int .i64 a2,.int .i64 a3,.int .i64 a4,.int .i64 b1,.int .i64 b2,.int .i64 b3,.int .i64 b4,.int .i64 e,.int .i64 si,.dat o,.int .i64 st,.int .i64 ap,.dat k],.agg [.int .i64 mk,.int .i64 mf,.int .i64 mt,.int .i64 mn,.int .i64 mv,.int .i64 me,.dat mb,.dat ml]]) =
 Tree.need (RlD.Ok (RlD.mk (Tgt.mk a1 a2 a3 a4) (Tgt.mk b1 b2 b3 b4) (SrcD.mk e si o st ap) k))
 (.br (ckRl (RlD.rl (RlD.mk (Tgt.mk a1 a2 a3 a4) (Tgt.mk b1 b2 b3 b4) (SrcD.mk e si o st ap) k)) != 0)
 (.ret
 (SV.tup
 [.agg
 [.int .i64 a1,.int .i64 a2,.int .i64 a3,.int .i64 a4,
 .int .i64 b1,.int .i64 b2,.int .i64 b3,.int .i64 b4,
 .int .i64 e,.int .i64 si,.dat o,.int .i64 st,.int .i64 ap,
 .dat k],
 .nils]))
 (.leaf
 (Conf.mk
 (SFrm.mk 62 none none [Item.code (cA 62 [0]),Item.code (cA 62 [1])]
 (mkJ 1
 [(0,
 .agg
 [.int .i64 a1,.int .i64 a2,.int .i64 a3,.int .i64 a4,
 .int .i64 b1,.int .i64 b2,.int .i64 b3,.int .i64 b4,
 .int .i64 e,.int .i64 si,.dat o,.int .i64 st,.int .i64 ap,
 .dat k])]
 0 23))
 [SFrm.mk 31 (some (oA 31 [1,1,0],[2])) (some 15) [Item.code (cA 31 [1,1,1])]
 (mkJ 0 [(3,.ptr 0 0),(4,.ptr 1 0)] 0 60)]
 [(0,
 OBlk.cells 72
 [.int .i64 mk,.int .i64 mf,.int .i64 mt,.int .i64 mn,
 .int .i64 mv,.int .i64 me,.dat mb,.dat ml]),
 (1,
 OBlk.cells 37
 [.int .i64 0,.int .i64 0,.int .i64 0,.int .i64 0,
 .int .i64 0,.int .i64 0,.int .i64 0,.int .i64 0,
 .int .i64 0,.int .i64 0,.nils,.int .i64 0,.int .i64 0,
 .nils])]))) := by kernel_rfl
end
end Sv
end
noncomputable section
namespace Sx
open Go RowKit
def svD : SV → Option D
 | .int k n=>some (.int k n)
 | .bool b=>some (.bool b)
 | .lb b=>some (.bool b)
 | .str s=>some (.str s)
 | .nils=>some (.slc none 0 [])
 | .dat d=>some d
 | _=>none
def rowOfD : List SV → Option (List D)
 | []=>some []
 | x :: r=>match svD x with
  | some d=>match rowOfD r with
   | some l=>some (d :: l)
   | none=>none
  | none=>none
theorem svD_spec {E : Env} {H : HV} {x : SV} {d : D} (h : svD x = some d) (hok : x.Ok H) : d.val = x.den E ∧ d.Ok H := by
 cases x <;> simp only [svD,Option.some.injEq,reduceCtorEq] at h <;> subst h
 ·exact ⟨rfl,.int _ _⟩
 ·exact ⟨rfl,.bool _⟩
 ·exact ⟨by simp [D.val,SV.den],.bool _⟩
 ·exact ⟨rfl,.str _⟩
 ·exact ⟨by simp [D.val,SV.den,hval],.nil 0⟩
 ·exact ⟨by simp [SV.den],hok.1⟩
theorem rowOfD_spec {E : Env} {H : HV} : ∀ {l : List SV} {row : List D},rowOfD l = some row → SV.OkL H l → row.map D.val = SV.denL E l ∧ ∀ d,d ∈ row → d.Ok H
 | [],row,h,_=>by cases h; exact ⟨by simp [SV.denL],by simp⟩
 | x :: r,row,h,hok=>by
  unfold rowOfD at h
  split at h
  ·rename_i d hd
   split at h
   ·rename_i l hl
    cases h
    obtain ⟨a1,a2⟩ := svD_spec (E := E) hd hok.1
    obtain ⟨b1,b2⟩ := rowOfD_spec (E := E) hl hok.2
    refine ⟨by simp [SV.denL,a1,b1],fun y hy=>?_⟩
    rcases List.mem_cons.1 hy with rfl | hy
    ·exact a2
    ·exact b2 y hy
   ·cases h
  ·cases h
def QLaw (P : Program) (f : FuncId) (spec : List D → SpecR) : Prop :=
 Bodied P f = true ∧ ∀ (H : HV) (w : World) (b : Nat) (row : List D),(rowD b row).Ok H → match spec row with
  | .scalar ps v=>(∀ p,p ∈ ps → p) → Runs P ⟨w,H⟩ (entry P f [.elt (rowD b row) 0 0]) (RetS w H v)
  | _=>True
end Sx
end
noncomputable section
open Go Go.Proofs Sx
namespace Sx
def frontI (a : Int) (l : List Cy) : Int := (l.map Cy.number).getLastD a
def spFront (row : List D) : SpecR := match row with
 | [_,_,_,_,_,_,_,_,_,_,_,_,.int .i64 a,.slc h z r]=>.scalar [(D.slc h z r).Is Cy ∧ (D.slc h z r).len ≤ 1048576] (.int .i64 (frontI a ((D.slc h z r).to Cy)))
 | _=>.no
end Sx
namespace Sv
section
variable (c1 c2 c3 c4 c5 c6 c7 c8 c9 c10 c11 c12 k : D) (b : Nat) (a : Int)
theorem frt_in : exec Try.prog [] 300 (entry Try.prog 88 [.elt (rowD b [c1,c2,c3,c4,c5,c6,c7,c8,c9,c10,c11,c12,.int .i64 a,k]) 0 0]) =
 Tree.need (D.HasCell (rowD b [c1,c2,c3,c4,c5,c6,c7,c8,c9,c10,c11,c12,D.int .i64 a,k]) 0 13 FT.slc)
 (.br
 (decide
 ((↑(D.len (D.cell (rowD b [c1,c2,c3,c4,c5,c6,c7,c8,c9,c10,c11,c12,D.int .i64 a,k]) 0 13)) :
 Int) >
 0))
 (.need
 (D.HasCell (rowD b [c1,c2,c3,c4,c5,c6,c7,c8,c9,c10,c11,c12,D.int .i64 a,k]) 0 13 FT.slc)
 (.need
 (0 ≤
 IntKind.wrap .i64
 ((↑(D.len
 (D.cell (rowD b [c1,c2,c3,c4,c5,c6,c7,c8,c9,c10,c11,c12,D.int .i64 a,k]) 0
 13)) :
 Int) -
 1) ∧
 IntKind.wrap .i64
 ((↑(D.len
 (D.cell (rowD b [c1,c2,c3,c4,c5,c6,c7,c8,c9,c10,c11,c12,D.int .i64 a,k]) 0
 13)) :
 Int) -
 1) <
 (↑(D.len
 (D.cell (rowD b [c1,c2,c3,c4,c5,c6,c7,c8,c9,c10,c11,c12,D.int .i64 a,k]) 0
 13)) :
 Int) ∧
 D.sz (D.cell (rowD b [c1,c2,c3,c4,c5,c6,c7,c8,c9,c10,c11,c12,D.int .i64 a,k]) 0 13) = 5)
 (.need
 (D.HasCell (D.cell (rowD b [c1,c2,c3,c4,c5,c6,c7,c8,c9,c10,c11,c12,D.int .i64 a,k]) 0 13)
 (Int.toNat
 (IntKind.wrap .i64
 ((↑(D.len
 (D.cell (rowD b [c1,c2,c3,c4,c5,c6,c7,c8,c9,c10,c11,c12,D.int .i64 a,k]) 0
 13)) :
 Int) -
 1)))
 1 (FT.int .i64))
 (.ret
 (.int .i64
 (D.getInt
 (D.cell (rowD b [c1,c2,c3,c4,c5,c6,c7,c8,c9,c10,c11,c12,D.int .i64 a,k]) 0 13)
 (Int.toNat
 (IntKind.wrap .i64
 ((↑(D.len
 (D.cell (rowD b [c1,c2,c3,c4,c5,c6,c7,c8,c9,c10,c11,c12,D.int .i64 a,k])
 0 13)) :
 Int) -
 1)))
 1))))))
 (.need
 (D.HasCell (rowD b [c1,c2,c3,c4,c5,c6,c7,c8,c9,c10,c11,c12,D.int .i64 a,k]) 0 12
 (FT.int .i64))
 (.ret
 (.int .i64
 (D.getInt (rowD b [c1,c2,c3,c4,c5,c6,c7,c8,c9,c10,c11,c12,D.int .i64 a,k]) 0 12))))) := by kernel_rfl

end
end Sv
end
noncomputable section
open Go Go.Proofs Sx
namespace Sv
theorem front_get {a : Int} {l : List Cy} (h : 0 < l.length) : frontI a l = (l[l.length - 1]'(by omega)).number := by
 unfold frontI
 rw [List.getLastD_eq_getLast?,List.getLast?_eq_getElem?,List.length_map,List.getElem?_map,List.getElem?_eq_getElem (by omega)]
 rfl
theorem lawFront : QLaw Try.prog 88 spFront := by
 refine ⟨by kernel_rfl,fun H w b row hrow=>?_⟩
 split
 ·rename_i ps v heq
  intro hp
  unfold spFront at heq
  split at heq
  case h_2=>cases heq
  rename_i c1 c2 c3 c4 c5 c6 c7 c8 c9 c10 c11 c12 a h z r
  cases heq
  obtain ⟨hk,hlen⟩ := hp _ (List.mem_singleton.2 rfl)
  apply exec_sound (noCtr _) 300
  rw [frt_in]
  have ek : (rowD b [c1,c2,c3,c4,c5,c6,c7,c8,c9,c10,c11,c12,.int .i64 a,D.slc h z r]).cell 0 13 = D.slc h z r := rfl
  have ea : (rowD b [c1,c2,c3,c4,c5,c6,c7,c8,c9,c10,c11,c12,.int .i64 a,D.slc h z r]).getInt 0 12 = a := rfl
  have n1 : (rowD b [c1,c2,c3,c4,c5,c6,c7,c8,c9,c10,c11,c12,.int .i64 a,D.slc h z r]).HasCell 0 13 .slc := ⟨h,z,r,rfl⟩
  have n2 : (rowD b [c1,c2,c3,c4,c5,c6,c7,c8,c9,c10,c11,c12,.int .i64 a,D.slc h z r]).HasCell 0 12 (.int .i64) := ⟨a,rfl⟩
  rw [ek,ea]
  generalize D.slc h z r = k at *
  have kl := D.Is.length (α := Cy) k
  refine ⟨n1,fun c=>?_,fun c=>⟨n2,ret_int ?_⟩⟩
  ·have c : 0 < (k.to Cy).length := by have := of_decide_eq_true c; omega
   have hlt : (k.to Cy).length - 1 < (k.to Cy).length := by omega
   have ew : IntKind.i64.wrap ((k.len : Int) - 1) = (((k.to Cy).length - 1 : Nat) : Int) := by rw [wrap64 (by omega) (by omega)]; omega
   obtain ⟨q1,_,_,q4⟩ := cy_cell hk hlt
   rw [ew]
   refine ⟨n1,⟨by omega,by omega,hk.size c⟩,q1.2.1,ret_int ?_⟩
   rw [front_get c,q4]; rfl
  ·have c : (k.to Cy) = [] := List.eq_nil_of_length_eq_zero (by have := of_decide_eq_false c; omega)
   rw [c]; rfl
 ·trivial
def aplA (x : RlD) (o q : D) (cb cn ct : Int) (cp cw : D) : Conf := Conf.mk (SFrm.mk 44 (some (oA 44 [1,1,1,1,0],[2])) none [Item.code (cA 44 [1,1,1,1,1])] (putS (mkJ 0 [(3,.ptr 0 0),(4,.ptr 1 0)] 0 106) (some 43) (.ptr 502 0))) []
 (bgN x o q ++ [(0,OBlk.cells 65 [.int .i64 cb,.int .i64 cn,.int .i64 ct,.dat cp,.dat cw]),(1,OBlk.cells 37 rlZ)])
def clnA (x : RlD) (o q : D) (mk mf mt mn mv me : Int) (mb ml : D) : Conf := Conf.mk (SFrm.mk 31 (some (oA 31 [1,1,0],[2])) none [Item.code (cA 31 [1,1,1])] (putS (mkJ 0 [(3,.ptr 0 0),(4,.ptr 1 0)] 0 60) (some 15) (.ptr 502 0))) []
 (bgN x o q ++ [(0,OBlk.cells 72 [.int .i64 mk,.int .i64 mf,.int .i64 mt,.int .i64 mn,.int .i64 mv,.int .i64 me,.dat mb,.dat ml]),(1,OBlk.cells 37 rlZ)])
def nxA (x : RlD) (n : Int) : Conf := Conf.mk (bhTop n) [SFrm.mk 30 (some (oA 30 [1,1,0],[7])) (some 15) [Item.code (cA 30 [1,1,1])] (mkJ 0 [(2,.ptr 1 0)] 0 23)] [(0,OBlk.cells 115 (rlCs x)),(1,OBlk.cells 65 [.int .i64 0,.int .i64 0,.int .i64 0,.nils,.nils])]
def nxL (x : RlD) (n : Int) (r : D) (j : Int) : Conf := Conf.mk (bhLop n (.dat x.k) (x.k.len : Int) j) [SFrm.mk 30 (some (oA 30 [1,1,0],[7])) (some 15) [Item.code (cA 30 [1,1,1])] (mkJ 0 [(2,.ptr 1 0)] 0 23)] [(0,.arr 65 r),(1,OBlk.cells 65 [.int .i64 0,.int .i64 0,.int .i64 0,.nils,.nils])]
section
variable (d s o k p q mb ml cp cw r : D) (b : Nat) (n j a a1 a2 a3 a4 b1 b2 b3 b4 e si st ap ep na cb cn ct mk mf mt mn mv me : Int)
theorem clnA_go : goS Try.prog ctAp (fun _=>false) [(63,8)] 400 (clnA ⟨⟨a1,a2,a3,a4⟩,⟨b1,b2,b3,b4⟩,⟨e,si,o,st,ap⟩,k⟩ p q mk mf mt mn mv me mb ml) =
 Tree.all fun hs =>
 .need (D.Is Int p)
 (.all fun hs_1 =>
 .all fun hs_2 =>
 .leaf
 (Conf.mk
 (SFrm.mk 63 none none
 [Item.code (cA 63 [1,1,0,0]),Item.code (cA 63 [1,1,0,1]),
 Item.code (cA 63 [1,1,1])]
 (mkJ 1
 [(0,.ptr 0 0),
 (1,
 .int .i64
 (Src.applied
 (Prod.fst
 (learn (SrcD.src (SrcD.mk e si p st ap)) (MsgD.msg (MsgD.mk mk mf mt mn mv me mb ml)))))),
 (5,.nils)]
 0 29))
 [SFrm.mk 31 (some (oA 31 [1,1,1,1,1,1,0],[5,6,7,8])) (some 42)
 [Item.code (cA 31 [1,1,1,1,1,1,1])]
 (mkJ 0
 [(4,.ptr 1 0),(6,.ptr 0 0),(7,.ptr 2 0),
 (8,
 .dat
 (D.like (hs 6 1)
 (Prod.snd
 (learn (SrcD.src (SrcD.mk e si p st ap)) (MsgD.msg (MsgD.mk mk mf mt mn mv me mb ml)))))),
 (9,
 .bool
 (decide
 (Src.epoch
 (Prod.fst
 (learn (SrcD.src (SrcD.mk e si p st ap))
 (MsgD.msg (MsgD.mk mk mf mt mn mv me mb ml)))) >
 e))),
 (38,.ptr 0 0)]
 0 60)]
 [(0,
 OBlk.cells 115
 [.int .i64 a1,.int .i64 a2,.int .i64 a3,.int .i64 a4,
 .int .i64 b1,.int .i64 b2,
 .int .i64
 (Src.stored
 (Prod.fst
 (learn (SrcD.src (SrcD.mk e si p st ap)) (MsgD.msg (MsgD.mk mk mf mt mn mv me mb ml))))),
 .int .i64
 (Src.applied
 (Prod.fst
 (learn (SrcD.src (SrcD.mk e si p st ap)) (MsgD.msg (MsgD.mk mk mf mt mn mv me mb ml))))),
 .int .i64
 (Src.epoch
 (Prod.fst
 (learn (SrcD.src (SrcD.mk e si p st ap)) (MsgD.msg (MsgD.mk mk mf mt mn mv me mb ml))))),
 .int .i64
 (Src.site
 (Prod.fst
 (learn (SrcD.src (SrcD.mk e si p st ap)) (MsgD.msg (MsgD.mk mk mf mt mn mv me mb ml))))),
 .dat
 (D.like (hs 6 0)
 (Src.offered
 (Prod.fst
 (learn (SrcD.src (SrcD.mk e si p st ap)) (MsgD.msg (MsgD.mk mk mf mt mn mv me mb ml)))))),
 .int .i64
 (Src.stored
 (Prod.fst
 (learn (SrcD.src (SrcD.mk e si p st ap)) (MsgD.msg (MsgD.mk mk mf mt mn mv me mb ml))))),
 .int .i64
 (Src.applied
 (Prod.fst
 (learn (SrcD.src (SrcD.mk e si p st ap)) (MsgD.msg (MsgD.mk mk mf mt mn mv me mb ml))))),
 .vec 3]),
 (1,
 OBlk.cells 37
 [.int .i64 0,.int .i64 0,.int .i64 0,.int .i64 0,
 .int .i64 0,.int .i64 0,.int .i64 0,.int .i64 0,
 .int .i64 0,.int .i64 0,.nils,.int .i64 0,.int .i64 0,
 .nils]),
 (2,
 OBlk.cells 34
 [.int .i64
 (Src.epoch
 (Prod.fst
 (learn (SrcD.src (SrcD.mk e si p st ap)) (MsgD.msg (MsgD.mk mk mf mt mn mv me mb ml))))),
 .int .i64
 (Src.site
 (Prod.fst
 (learn (SrcD.src (SrcD.mk e si p st ap)) (MsgD.msg (MsgD.mk mk mf mt mn mv me mb ml))))),
 .dat
 (D.like (hs 6 0)
 (Src.offered
 (Prod.fst
 (learn (SrcD.src (SrcD.mk e si p st ap)) (MsgD.msg (MsgD.mk mk mf mt mn mv me mb ml)))))),
 .int .i64
 (Src.stored
 (Prod.fst
 (learn (SrcD.src (SrcD.mk e si p st ap)) (MsgD.msg (MsgD.mk mk mf mt mn mv me mb ml))))),
 .int .i64
 (Src.applied
 (Prod.fst
 (learn (SrcD.src (SrcD.mk e si p st ap)) (MsgD.msg (MsgD.mk mk mf mt mn mv me mb ml)))))]),
 (3,OBlk.arr 65 q)])) := by kernel_rfl
theorem nxA_go : exec Try.prog ctNx 400 (nxA ⟨⟨a1,a2,a3,a4⟩,⟨b1,b2,b3,b4⟩,⟨e,si,o,st,ap⟩,k⟩ n) =
 Tree.leaf
 (Conf.mk
 (SFrm.mk 63 none none
 [Item.inLoop (cA 63 [1,1,0,1,0,0]),Item.inBlock 0,Item.code (cA 63 [1,1,1])]
 (mkJ 1
 [(1,.int .i64 n),(5,.nils),(12,.dat k),(13,.int .i64 (↑(D.len k) : Int)),
 (14,.int .i64 0)]
 0 29))
 [SFrm.mk 30 (some (oA 30 [1,1,0],[7])) (some 15) [Item.code (cA 30 [1,1,1])]
 (mkJ 0 [(2,.ptr 0 0)] 0 23)]
 [(0,OBlk.cells 65 [.int .i64 0,.int .i64 0,.int .i64 0,.nils,.nils])]) := by kernel_rfl
theorem nxL_go : 
 let z1 := (SFrm.mk 63 none none [Item.inLoop (cA 63 [1,1,0,1,0,0]),Item.inBlock 0,Item.code (cA 63 [1,1,1])] (mkJ 1 [(1,.int .i64 n),(5,.vec 0),(12,.dat k),(13,.int .i64 (↑(D.len k) : Int)),(14,.int .i64 (IntKind.wrap .i64 (j + 1)))] 0 29))
 let z2 := (D.getInt k (Int.toNat j) 2)
 let z3 := (D.getInt k (Int.toNat j) 1)
 let z4 := (D.getInt k (Int.toNat j) 0)
 let z5 := (D.to Int (D.cell k (Int.toNat j) 3))
 let z6 := (D.to Wt (D.cell k (Int.toNat j) 4))
 let z7 : List SV := [.int .i64 0,.int .i64 0,.int .i64 0,.nils,.nils]
 exec Try.prog ctNx 400 (unroll (nxL ⟨⟨a1,a2,a3,a4⟩,⟨b1,b2,b3,b4⟩,⟨e,si,o,st,ap⟩,k⟩ n r j)) =
 Tree.br (decide (j < (↑(D.len k) : Int))) (.need (0 ≤ j ∧ j < (↑(D.len k) : Int) ∧ D.sz k = 5) (.need (D.HasCells k (Int.toNat j) 0 [FT.int .i64,FT.int .i64,FT.int .i64,FT.slc,FT.slc]) (.br (decide
 (D.getInt k (Int.toNat j) 1 > n)) (.need (CyD.Ok (CyD.mk z4 z3 z2 (D.cell k (Int.toNat j) 3) (D.cell k (Int.toNat j) 4))) (.all fun hs=>.all fun hs_1=>.need (D.sz r = 5 ∧ D.Fits (D.slc (D.hd (hs_1 0 0)) 5 [[D.int .i64 z4,D.int .i64 z3,D.int .i64 z2,D.like
 (hs 0 0) z5,D.like (hs 0 1) z6]]) 5 ∧ (D.len r + D.len (D.slc (D.hd (hs_1 0 0)) 5 [[D.int .i64 z4,D.int .i64 z3,D.int .i64 z2,D.like (hs 0 0) z5,D.like (hs 0 1) z6]])) * 72 ≤ 140737488355328 ∧ D.len r + D.len
 (D.slc (D.hd (hs_1 0 0)) 5 [[D.int .i64 z4,D.int .i64 z3,D.int .i64 z2,D.like (hs 0 0) z5,D.like (hs 0 1) z6]]) ≤ 9223372036854775807) (.all fun hs_2=>.leaf (Conf.mk z1 [SFrm.mk 30 (some (oA 30 [1,1,0],[7]))
 (some 15) [Item.code (cA 30 [1,1,1])] (mkJ 0 [(2,.ptr 1 0)] 0 23)] [(0,OBlk.arr 65 (D.slc (D.hd (hs_2 0 0)) 5 (List.append (D.rows r) (D.rows (D.slc (D.hd (hs_1 0 0)) 5 [[D.int .i64 z4,D.int .i64 z3,D.int .i64 z2,D.like
 (hs 0 0) z5,D.like (hs 0 1) z6]]))))),(1,OBlk.cells 65 z7)])))) (.leaf (Conf.mk z1 [SFrm.mk 30 (some (oA 30 [1,1,0],[7])) (some 15) [Item.code (cA 30 [1,1,1])] (mkJ 0 [(2,.ptr 1 0)] 0 23)] [(0,OBlk.arr 65 r),
 (1,OBlk.cells 65 z7)]))))) (.br (decide ((↑(D.len r) : Int) = 0)) (.ret (SV.tup [.agg z7,.lb false])) (.need ((0 : Int) ≤ 0 ∧ 0 < (↑(D.len r) : Int) ∧ D.sz r = 5) (.need (D.HasCells r 0 0 [FT.int .i64,FT.int .i64,FT.int .i64,FT.slc,FT.slc] ∧ D.sz r = 5)
 (.ret (SV.tup [.agg [.int .i64 (D.getInt r 0 0),.int .i64 (D.getInt r 0 1),.int .i64 (D.getInt r 0 2),.dat (D.cell r 0 3),.dat (D.cell r 0 4)],.lb true]))))) := by
 intros; kernel_rfl
end
end Sv
end
noncomputable section
namespace Sx
open Go RowKit
theorem q_calls {P : Program} {f : FuncId} {spec : List D → SpecR} (h : QLaw P f spec) {C : Ctx} {m : Mem} {E : Env} {H : HV} {w : World} (gd : Good C m E H w) {k : Nat} {t : TypeId} {cs : List SV} {row : List D} {ps : List Prop} {v : SV}
  (hget : m.get k = some (.cells t cs)) (hrow : rowOfD (closeL (pubsR (leavesL cs) m) cs) = some row) (hspec : spec row = .scalar ps v) (hp : ∀ p,p ∈ ps → p) :
  Calls P f #[(SV.ptr k 0).den E] w fun e w'=>e = .returned (v.den E) ∧ Good C m E H w' := by
 obtain ⟨d1,d2,d3,d4⟩ := gd.own k _ (Mem.get_mem hget)
 obtain ⟨H1,hle,g1,nw⟩ := pubsR_spec (leavesL cs) gd
 obtain ⟨e1,e2⟩ := closeL_spec g1 cs (SV.OkL.mono hle _ d4)
 obtain ⟨c1,c2,c3,c4⟩ := g1.own k _ (Mem.get_mem (get_pubs_cells (leavesL cs) hget))
 obtain ⟨r1,r2⟩ := rowOfD_spec (E := E) hrow e2
 rw [e1] at r1
 let Hp : HV := fun b o=>if b = E.b k then (SV.denL E cs)[o]? else H1 b o
 have hHp : HLe H1 Hp := fun b o u hu=>by
  have : b ≠ E.b k := by rintro rfl; rw [c3] at hu; cases hu
  simp only [Hp,this,if_false,hu]
 have hrw : (rowD (E.b k) row).Ok Hp := by
  refine .slc _ 1 _ _ (fun _=>rfl) (by simp) (fun r hr=>by rw [List.mem_singleton.1 hr]) (fun i j r x hi hj=>?_) (fun r hr x hx=>by rw [List.mem_singleton.1 hr] at hx; exact (r2 x hx).mono hHp)
  have hi0 : i = 0 := by
   cases i with
   | zero=>rfl
   | succ i=>simp at hi
  subst hi0
  simp only [List.getElem?_cons_zero,Option.some.injEq] at hi
  subst hi
  simp only [Hp,if_true,← r1]
  simp [hj]
 have hmem : InMem Hp w := fun b o u hu=>by
  simp only [Hp] at hu
  split at hu
  ·rename_i hb
   subst hb
   simp only [World.cell?,c2]
   simpa using hu
  ·exact g1.cell b o u hu
 have hl := h.2 Hp w (E.b k) row hrw
 rw [hspec] at hl
 have hc := calls_of (args := [.elt (rowD (E.b k) row) 0 0]) h.1 ⟨hrw,trivial⟩ E hmem (hl hp)
 have eargs : SV.denL E [.elt (rowD (E.b k) row) 0 0] = SV.denL E [.ptr k 0] := by
  simp only [SV.denL,SV.den,rowD,D.addr,D.hd]
  simp
 rw [eargs] at hc
 refine Calls.mono hc fun e w' ⟨u,he',H',ha',hu⟩=>?_
 have hcell : ∀ b o u,H b o = some u → w'.cell? ⟨b,o,none⟩ = some u := fun b o u hu=>ha'.cell b o u (ha'.le b o u (hHp b o u (hle b o u hu)))
 exact ⟨by rw [he',hu E],gd.call ha'.below (HLe.refl _) (fun _ _ _ h=>.inl h) hcell⟩
section
variable {P : Program} {ops : Array Oper} {Q : Exit → Act → World → Prop}
theorem wpAny_quiet {dst : Nat → Nat} {vals : Nat → Value} {base : Array Value} {J : World → Prop}
  (hlt : ∀ i,i < ops.size → ∀ j,j ∈ predsOf ops i → j < i)
  (hdst : ∀ (i : Nat) (o : Oper),ops[i]? = some o → o.dst = some (dst i) ∧ o.guard = none ∧ dst i < base.size)
  (hinj : ∀ i j,i < ops.size → j < ops.size → dst i = dst j → i = j)
  (hex : ∀ (i : Nat) (o : Oper),ops[i]? = some o → ∀ (l : List Nat) (T : Array Value) (w : World),Begun ops l → i ∉ l → (∀ j,j ∈ predsOf ops i → j ∈ l) → FInv dst vals base l T → J w →
   o.wp P ⟨T,[]⟩ w (fun a w'=>a = ⟨T.setIfInBounds (dst i) (vals i),[]⟩ ∧ J w') Q)
  (hQ : ∀ T l w,(∀ i,i < ops.size → i ∈ l) → FInv dst vals base l T → J w → Q .normal ⟨T,[]⟩ w) :
  ∀ (fuel : Nat) (l : List Nat) (listed : Array Bool) (T : Array Value) (w : World),l.length + fuel = ops.size → Begun ops l → l.Nodup → (∀ j,j ∈ l → j < ops.size) → listed.size = ops.size → (∀ j,j < ops.size → listed[j]? = some (l.contains j)) →
   FInv dst vals base l T → J w → wpAny P .any ops Q fuel listed ⟨T,[]⟩ w := by
 have all : ∀ l : List Nat,l.Nodup → (∀ j,j ∈ l → j < ops.size) → l.length = ops.size → ∀ i,i < ops.size → i ∈ l := by
  intro l hn hl he i hi
  by_cases h : i ∈ l
  ·exact h
  ·have := flow_len (N := ops.size) (l := i :: l) (List.nodup_cons.2 ⟨h,hn⟩) (fun j hj=>by
    rcases List.mem_cons.1 hj with hj | hj
    ·rw [hj]; exact hi
    ·exact hl j hj)
   simp only [List.length_cons] at this; omega
 intro fuel
 induction fuel with
 | zero =>
  intro l listed T w hlen hb hn hl hsz hls hI hJ
  have ha := all l hn hl (by omega)
  refine ⟨?_,hQ T l w ha hI hJ⟩
  rw [List.eq_nil_iff_forall_not_mem]
  intro i hi
  obtain ⟨h1,h2,_⟩ := (ready_iff hsz hls hlt).1 hi
  exact h2 (ha i h1)
 | succ fuel ih =>
  intro l listed T w hlen hb hn hl hsz hls hI hJ
  refine ⟨fun hnil=>?_,fun i hi=>?_⟩
  ·exfalso
   have hex : ∃ m,m < ops.size ∧ m ∉ l := by
    by_cases h : ∃ m,m < ops.size ∧ m ∉ l
    ·exact h
    ·have h' : ∀ i,i < ops.size → i ∈ l := fun i hi=>by
      by_cases hm : i ∈ l
      ·exact hm
      ·exact absurd ⟨i,hi,hm⟩ h
     have := len_ge ops.size l h'
     omega
   obtain ⟨m,hm1,hm2⟩ := hex
   have key : ∀ m,m < ops.size → m ∉ l → False := by
    intro m
    induction m using Nat.strongRecOn with
    | _ m ihm =>
     intro h1 h2
     have : m ∈ Region.ready .any ops listed := (ready_iff hsz hls hlt).2 ⟨h1,h2,fun j hj=>by
      by_cases hjl : j ∈ l
      ·exact hjl
      ·exact (ihm j (hlt m h1 j hj) (by have := hlt m h1 j hj; omega) hjl).elim⟩
     rw [hnil] at this; cases this
   exact key m hm1 hm2
  ·obtain ⟨h1,h2,h3⟩ := (ready_iff hsz hls hlt).1 hi
   have ho : ops[i]? = some ops[i] := by simp [h1]
   obtain ⟨d1,d2,d3⟩ := hdst i _ ho
   obtain ⟨s1,s2⟩ := listed_step hsz hls h1
   have hst := hI.step (i := i) d3 (fun j hj e=>h2 (by rw [← hinj j i (hl j hj) h1 e]; exact hj))
   unfold wpOp
   rw [ho]
   simp only [wanted_none d2,if_true]
   left
   refine Oper.wp_mono (fun a' w' hk=>?_) (hex i _ ho l T w hb h2 h3 hI hJ)
   obtain ⟨rfl,hJ'⟩ := hk
   exact ih (l ++ [i]) _ _ w' (by simp; omega) (.snoc hb h2 h1 h3) (by
    rw [List.nodup_append]
    exact ⟨hn,by simp,fun a ha b hb e=>by rw [List.mem_singleton] at hb; subst hb; subst e; exact h2 ha⟩) (fun j hj=>by
    rcases List.mem_append.1 hj with hj | hj
    ·exact hl j hj
    ·rw [List.mem_singleton.1 hj]; exact h1) s1 s2 hst hJ'
theorem wp_look {o : Oper} {T : Array Value} {w : World} {d : Nat} {v : Value} {J : World → Prop} (hd : o.dst = some d) (h : (execOp (Act.eval ⟨T,[]⟩) o).run P w = .ok (.value v) w) (hJ : J w) :
  o.wp P ⟨T,[]⟩ w (fun a w'=>a = ⟨T.setIfInBounds d v,[]⟩ ∧ J w') Q := by
 unfold Oper.wp
 rw [h]
 simp only [Oper.upon,hd,Act.put]
 exact ⟨trivial,hJ⟩
theorem wp_call {o : Oper} {T : Array Value} {w : World} {d : Nat} {v : Value} {J : World → Prop} {f : FuncId} {args : Array Value} (hd : o.dst = some d) (h : (execOp (Act.eval ⟨T,[]⟩) o).run P w = .ok (.enter f args) w) (hc : Calls P f args w fun e w'=>e = .returned v ∧ J w') :
  o.wp P ⟨T,[]⟩ w (fun a w'=>a = ⟨T.setIfInBounds d v,[]⟩ ∧ J w') Q := by
 unfold Oper.wp
 rw [h]
 simp only [Oper.upon]
 refine Calls.mono hc fun e w' ⟨he,hJ⟩=>?_
 subst he
 simp only [hd,Act.put]
 exact ⟨trivial,hJ⟩
end
end Sx
namespace Sx
open Go RowKit
theorem runs_at {P : Program} {C : Ctx} {f : FuncId} {ri : Option (Array Oper × List Nat)} {aw : Option Tmp} {k : List Item} {T : Array Value} {sl : List (Nat × SV)} {n : Nat} {mem : Mem} {E : Env} {H : HV} {w : World} {R : Value → World → Prop} (hx : C.x = ctxPlain) (hn : n = T.size)
  (hj : mem.all (fun x=>!x.2.jk 0) = true) (hjs : sl.all (fun x=>!x.2.jk 0) = true) (g : Good C mem E H w) (hs : ∀ p,p ∈ sl → p.2.den E = T.getD p.1 Go.undef) (hok : ∀ p,p ∈ sl → p.2.Ok H)
  (h : Runs P C ⟨⟨f,ri,aw,k,mkJ 0 sl 0 n⟩,[],mem⟩ R) : StkRun P ctxPlain ⟨f,ri,aw,k,⟨T,[]⟩,none⟩ [] w R := by
 have hsame : Same 0 E (envJ E T) := ⟨rfl,rfl,fun i hi=>absurd hi (Nat.not_lt_zero _)⟩
 have g' := g.same' hsame (fun x hx=>by have := List.all_eq_true.1 hj x hx; simpa using this)
 have := h (envJ E T) H w g' ⟨ok_mkJ hok _ _,by simp⟩
 simp only [SFrm.den,List.map_nil] at this
 rw [den_mkJ (fun p hp=>by
  have := List.all_eq_true.1 hjs p hp
  rw [den_same hsame p.2 (by simpa using this)]; exact hs p hp) n 0 (by omega),List.drop_zero,Array.toArray_toList,hx] at this
 exact this
end Sx
end
noncomputable section
open Go Go.Proofs Sx
namespace Sv
section
variable (d s o k p q mb ml cp cw r : D) (b : Nat) (n j a a1 a2 a3 a4 b1 b2 b3 b4 e si st ap ep na cb cn ct mk mf mt mn mv me : Int)
theorem aplA_go : goS Try.prog ctAp (fun _=>false) [(44,58)] 600 (aplA ⟨⟨a1,a2,a3,a4⟩,⟨b1,b2,b3,b4⟩,⟨e,si,o,st,ap⟩,k⟩ p q cb cn ct cp cw) =
 Tree.all fun hs =>
 .leaf
 (Conf.mk
 (SFrm.mk 44 none none
 [Item.code (cA 44 [1,1,1,1,1,1,0,0]),Item.code (cA 44 [1,1,1,1,1,1,0,1]),
 Item.code (cA 44 [1,1,1,1,1,1,1])]
 (mkJ 0 [(3,.ptr 0 0),(4,.ptr 1 0),(9,.ptr 2 0)] 0 106))
 []
 [(0,OBlk.cells 65 [.int .i64 cb,.int .i64 cn,.int .i64 ct,.dat cp,.dat cw]),
 (1,
 OBlk.cells 37
 [.int .i64 0,.int .i64 0,.int .i64 0,.int .i64 0,
 .int .i64 0,.int .i64 0,.int .i64 0,.int .i64 0,
 .int .i64 0,.int .i64 0,.nils,.int .i64 0,.int .i64 0,
 .nils]),
 (2,
 OBlk.cells 115
 [.int .i64 a1,.int .i64 a2,.int .i64 cn,.int .i64 cn,
 .int .i64 b1,.int .i64 b2,.int .i64 b3,.int .i64 b4,
 .int .i64 e,.int .i64 si,.vec 3,.int .i64 st,.int .i64 ap,
 .vec 4]),
 (3,OBlk.arr 3 p),(4,OBlk.arr 65 q)]) := by kernel_rfl
end
def aplM (x : RlD) (o q : D) (cb cn ct : Int) (cp cw : D) : Mem := [(0,OBlk.cells 65 [.int .i64 cb,.int .i64 cn,.int .i64 ct,.dat cp,.dat cw]),(1,OBlk.cells 37 rlZ),(2,OBlk.cells 115 (rlV x (.vec 3) (.vec 4))),(3,.arr 3 o),(4,.arr 65 q)]
def aplC (x : RlD) (o q : D) (cb cn ct : Int) (cp cw : D) (bb : Bool) : Conf := Conf.mk (SFrm.mk 44 none none [Item.code (cA 44 [1,1,1,1,1,1,0,1]),Item.code (cA 44 [1,1,1,1,1,1,1])] (mkJ 0 [(3,.ptr 0 0),(4,.ptr 1 0),(9,.ptr 2 0),(62,.bool bb)] 0 106)) [] (aplM x o q cb cn ct cp cw)
section
variable (d s o k p q mb ml cp cw r : D) (bb : Bool) (n j a a1 a2 a3 a4 b1 b2 b3 b4 e si st ap ep na cb cn ct mk mf mt mn mv me : Int)
theorem aplC_go : exec Try.prog ctAp 600 (aplC ⟨⟨a1,a2,a3,a4⟩,⟨b1,b2,b3,b4⟩,⟨e,si,o,st,ap⟩,k⟩ p q cb cn ct cp cw bb) =
 Tree.br bb
 (.ret
 (SV.tup
 [.agg
 [.int .i64 a1,.int .i64 a2,.int .i64 a3,.int .i64 a4,
 .int .i64 b1,.int .i64 b2,.int .i64 b3,.int .i64 b4,
 .int .i64 e,.int .i64 si,.dat p,.int .i64 st,.int .i64 ap,
 .dat q],
 .nils,.int .i64 0]))
 (.all fun hs =>
 .need (D.Is Int p)
 (.br (Prod.snd (Prod.snd (offer (SrcD.src (SrcD.mk e si p st ap)) cn)) != 0)
 (.ret
 (SV.tup
 [.agg
 [.int .i64 0,.int .i64 0,.int .i64 0,.int .i64 0,
 .int .i64 0,.int .i64 0,.int .i64 0,.int .i64 0,
 .int .i64 0,.int .i64 0,.nils,.int .i64 0,.int .i64 0,
 .nils],
 .nils,.int .i64 (Prod.snd (Prod.snd (offer (SrcD.src (SrcD.mk e si p st ap)) cn)))]))
 (.all fun hs_1 =>
 .need (CyD.Ok (CyD.mk cb cn ct cp cw))
 (.need
 (D.sz q = 5 ∧
 D.Fits
 (D.slc (D.hd (hs_1 10 0)) 5
 [[D.int .i64 cb,D.int .i64 cn,D.int .i64 ct,
 D.like (hs_1 9 0) (D.to Int cp),D.like (hs_1 9 1) (D.to Wt cw)]])
 5 ∧
 (D.len q +
 D.len
 (D.slc (D.hd (hs_1 10 0)) 5
 [[D.int .i64 cb,D.int .i64 cn,D.int .i64 ct,
 D.like (hs_1 9 0) (D.to Int cp),D.like (hs_1 9 1) (D.to Wt cw)]])) *
 72 ≤
 140737488355328 ∧
 D.len q +
 D.len
 (D.slc (D.hd (hs_1 10 0)) 5
 [[D.int .i64 cb,D.int .i64 cn,D.int .i64 ct,
 D.like (hs_1 9 0) (D.to Int cp),D.like (hs_1 9 1) (D.to Wt cw)]]) ≤
 9223372036854775807)
 (.ret
 (SV.tup
 [.agg
 [.int .i64 a1,.int .i64 a2,.int .i64 a3,.int .i64 a4,
 .int .i64 b1,.int .i64 b2,.int .i64 b3,.int .i64 b4,
 .int .i64 (Src.epoch (Prod.fst (offer (SrcD.src (SrcD.mk e si p st ap)) cn))),
 .int .i64 (Src.site (Prod.fst (offer (SrcD.src (SrcD.mk e si p st ap)) cn))),
 .dat (D.like (hs 7 0) (Src.offered (Prod.fst (offer (SrcD.src (SrcD.mk e si p st ap)) cn)))),
 .int .i64 (Src.stored (Prod.fst (offer (SrcD.src (SrcD.mk e si p st ap)) cn))),
 .int .i64 (Src.applied (Prod.fst (offer (SrcD.src (SrcD.mk e si p st ap)) cn))),
 .dat
 (D.slc (D.hd (hs_1 11 0)) 5
 (List.append (D.rows q)
 (D.rows
 (D.slc (D.hd (hs_1 10 0)) 5
 [[D.int .i64 cb,D.int .i64 cn,D.int .i64 ct,
 D.like (hs_1 9 0) (D.to Int cp),D.like (hs_1 9 1) (D.to Wt cw)]]))))],
 .dat (D.like (hs 7 1) (Prod.fst (Prod.snd (offer (SrcD.src (SrcD.mk e si p st ap)) cn)))),
 .int .i64 0])))))) := by kernel_rfl
end
end Sv
end
