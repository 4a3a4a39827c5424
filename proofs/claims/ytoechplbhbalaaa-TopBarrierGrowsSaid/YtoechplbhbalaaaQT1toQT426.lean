/- Layer 15: images, walked. -/
import Derived.KernelRfl
import Derived.Test.YtoechplbhbalaaaOutoN16
import Derived.Test.YtoechplbhbalaaaProg
import Derived.Test.YtoechplbhbalaaaN17toRW16
import Derived.Maps.RangeRun
set_option linter.all false
set_option maxRecDepth 100000
set_option maxHeartbeats 0
noncomputable section
open Go Go.Proofs Sx
namespace Sv
section
variable (n j : Int) (d e a b : D) (v s : Int)
theorem cf_in : exec Try.prog [] 200 (entry Try.prog 80 [.dat d,.fn 94 [] []]) =
 Tree.leaf
 (Conf.mk
 (SFrm.mk 80 none none
 [Item.inLoop (cA 80 [1,0,1,0,0]),Item.inBlock 0,Item.code (cA 80 [1,1])]
 (mkJ 0 [(0,.dat d),(1,SV.fn 94 [] []),(7,.int .i64 (↑(D.len d) : Int)),(8,.int .i64 0)]
 0 19))
 [] []) := by kernel_rfl
theorem mp_in : exec Try.prog [] 200 (entry Try.prog 88 [.dat d,.fn 89 [] []]) =
 Tree.need
 ((0 : Int) ≤ 0 ∧
 0 ≤ (↑(D.len d) : Int) ∧
 (↑24 : Int) * (↑(D.len d) : Int) ≤ 281474976710656 ∧ (↑(D.len d) : Int) ≤ 9223372036854775807)
 (.all fun hs =>
 .leaf
 (Conf.mk
 (SFrm.mk 88 none none
 [Item.inLoop (cA 88 [1,1,0,1,0,0]),Item.inBlock 0,Item.code (cA 88 [1,1,1])]
 (mkJ 0
 [(1,SV.fn 89 [] []),(5,.vec 0),(11,.dat d),(12,.int .i64 (↑(D.len d) : Int)),
 (13,.int .i64 0)]
 0 25))
 [] [(0,OBlk.arr 152 (D.slc (D.hd (hs 0 0)) 1 (List.replicate 0 [D.slc none 0 []])))])) := by kernel_rfl
theorem ms_in : exec Try.prog [] 200 (entry Try.prog 100 [.dat d,.fn 101 [] []]) =
 Tree.need
 ((0 : Int) ≤ 0 ∧
 0 ≤ (↑(D.len d) : Int) ∧
 (↑8 : Int) * (↑(D.len d) : Int) ≤ 281474976710656 ∧ (↑(D.len d) : Int) ≤ 9223372036854775807)
 (.all fun hs =>
 .leaf
 (Conf.mk
 (SFrm.mk 100 none none
 [Item.inLoop (cA 100 [1,1,0,1,0,0]),Item.inBlock 0,Item.code (cA 100 [1,1,1])]
 (mkJ 0
 [(1,SV.fn 101 [] []),(5,.vec 0),(11,.dat d),(12,.int .i64 (↑(D.len d) : Int)),
 (13,.int .i64 0)]
 0 25))
 [] [(0,OBlk.arr 3 (D.slc (D.hd (hs 0 0)) 1 (List.replicate 0 [D.int .i64 0])))])) := by kernel_rfl
theorem ft_in : exec Try.prog [] 200 (entry Try.prog 97 [.dat d,.agg [.int .i64 v,.int .i64 s,.dat e]]) =
 Tree.br (decide (v < 0)) (.ret (.int .i64 7))
 (.br (decide (v ≥ (↑(D.len d) : Int))) (.ret (.int .i64 7))
 (.br (decide ((↑(D.len e) : Int) = 0)) (.ret (.int .i64 1))
 (.all fun hs =>
 .br (decide (s < 0))
 (.need (decide (s < 0) = true)
 (.need (decide (s < 0) = true)
 (.need (decide (s < 0) = true)
 (.need (decide (s < 0) = true)
 (.need (decide (s < 0) = true)
 (.need (decide (s < 0) = true)
 (.need (decide (s < 0) = true)
 (.need (decide (s < 0) = true)
 (.need (decide (s < 0) = true)
 (.need (decide (s < 0) = true)
 (.need (decide (s < 0) = true)
 (.need (decide (s < 0) = true)
 (.need (decide (s < 0) = true)
 (.need (decide (s < 0) = true) (.ret (.int .i64 2))))))))))))))))
 (.need (decide (s < 0) = false)
 (.need (decide (s < 0) = false)
 (.need (decide (s < 0) = false)
 (.need (decide (s < 0) = false)
 (.need (decide (s < 0) = false)
 (.need (decide (s < 0) = false)
 (.need (0 ≤ v ∧ v < (↑(D.len d) : Int) ∧ D.sz d = 1)
 (.need (decide (s < 0) = false)
 (.need (D.HasCell d (Int.toNat v) 0 FT.slc)
 (.need (decide (s < 0) = false)
 (.need (decide (s < 0) = false)
 (.need (decide (s < 0) = false)
 (.need (decide (s < 0) = false)
 (.need (decide (s < 0) = false)
 (.need (decide (s < 0) = false)
 (.need (decide (s < 0) = false)
 (.br
 (decide
 (s >
 IntKind.wrap .i64
 ((↑(D.len (D.cell d (Int.toNat v) 0)) : Int) - (↑(D.len e) : Int))))
 (.ret (.int .i64 2))
 (.ret (.int .i64 0)))))))))))))))))))))) := by kernel_rfl
end
def cfL (d : D) (j : Int) : Conf := Conf.mk (SFrm.mk 80 none none [Item.inLoop (cA 80 [1,0,1,0,0]),Item.inBlock 0,Item.code (cA 80 [1,1])]
 (mkJ 0 [(0,.dat d),(1,.fn 94 [] []),(7,.int .i64 d.len),(8,.int .i64 j)] 0 19)) [] []
def mpL (d o : D) (j : Int) : Conf := Conf.mk (SFrm.mk 88 none none [Item.inLoop (cA 88 [1,1,0,1,0,0]),Item.inBlock 0,Item.code (cA 88 [1,1,1])]
 (mkJ 0 [(1,.fn 89 [] []),(5,.vec 0),(11,.dat d),(12,.int .i64 d.len),(13,.int .i64 j)] 0 25)) [] [(0,.arr 152 o)]
def msL (d o : D) (j : Int) : Conf := Conf.mk (SFrm.mk 100 none none [Item.inLoop (cA 100 [1,1,0,1,0,0]),Item.inBlock 0,Item.code (cA 100 [1,1,1])]
 (mkJ 0 [(1,.fn 101 [] []),(5,.vec 0),(11,.dat d),(12,.int .i64 d.len),(13,.int .i64 j)] 0 25)) [] [(0,.arr 3 o)]
section
variable (n j : Int) (d e a b o : D) (v s : Int)
theorem cf_go : exec Try.prog [] 200 (unroll (cfL d j)) =
 Tree.br (decide (j < (↑(D.len d) : Int)))
 (.need (0 ≤ j ∧ j < (↑(D.len d) : Int) ∧ D.sz d = 1)
 (.need (D.HasCell d (Int.toNat j) 0 (FT.int .i64))
 (.br (decide (D.getInt d (Int.toNat j) 0 < 1)) (.ret (.int .i64 j))
 (.br (decide (D.getInt d (Int.toNat j) 0 > 4096)) (.ret (.int .i64 j))
 (.leaf
 (Conf.mk
 (SFrm.mk 80 none none
 [Item.inLoop (cA 80 [1,0,1,0,0]),Item.inBlock 0,Item.code (cA 80 [1,1])]
 (mkJ 0
 [(0,.dat d),(1,SV.fn 94 [] []),(7,.int .i64 (↑(D.len d) : Int)),
 (8,.int .i64 (IntKind.wrap .i64 (j + 1)))]
 0 19))
 [] []))))))
 (.ret (.int .i64 (Int.neg 1))) := by kernel_rfl
theorem mp_go : exec Try.prog [] 200 (unroll (mpL d o j)) =
 Tree.br (decide (j < (↑(D.len d) : Int)))
 (.need (0 ≤ j ∧ j < (↑(D.len d) : Int) ∧ D.sz d = 1)
 (.need (D.HasCell d (Int.toNat j) 0 (FT.int .i64))
 (.need
 (0 ≤ D.getInt d (Int.toNat j) 0 ∧
 D.getInt d (Int.toNat j) 0 = D.getInt d (Int.toNat j) 0 ∧
 (↑8 : Int) * D.getInt d (Int.toNat j) 0 ≤ 281474976710656 ∧
 D.getInt d (Int.toNat j) 0 ≤ 9223372036854775807)
 (.all fun hs =>
 .all fun hs_1 =>
 .need
 (D.sz o = 1 ∧
 D.Fits
 (D.slc (D.hd (hs_1 0 0)) 1
 [[D.slc (D.hd (hs 0 0)) 8
 (List.replicate (Int.toNat (D.getInt d (Int.toNat j) 0))
 [D.int .u8 0,D.int .u8 0,D.int .u8 0,D.int .u8 0,
 D.int .u8 0,D.int .u8 0,D.int .u8 0,D.int .u8 0])]])
 1 ∧
 (D.len o +
 D.len
 (D.slc (D.hd (hs_1 0 0)) 1
 [[D.slc (D.hd (hs 0 0)) 8
 (List.replicate (Int.toNat (D.getInt d (Int.toNat j) 0))
 [D.int .u8 0,D.int .u8 0,D.int .u8 0,D.int .u8 0,
 D.int .u8 0,D.int .u8 0,D.int .u8 0,
 D.int .u8 0])]])) *
 24 ≤
 140737488355328 ∧
 D.len o +
 D.len
 (D.slc (D.hd (hs_1 0 0)) 1
 [[D.slc (D.hd (hs 0 0)) 8
 (List.replicate (Int.toNat (D.getInt d (Int.toNat j) 0))
 [D.int .u8 0,D.int .u8 0,D.int .u8 0,D.int .u8 0,
 D.int .u8 0,D.int .u8 0,D.int .u8 0,
 D.int .u8 0])]]) ≤
 9223372036854775807)
 (.all fun hs_2 =>
 .leaf
 (Conf.mk
 (SFrm.mk 88 none none
 [Item.inLoop (cA 88 [1,1,0,1,0,0]),Item.inBlock 0,
 Item.code (cA 88 [1,1,1])]
 (mkJ 0
 [(1,SV.fn 89 [] []),(5,.vec 0),(11,.dat d),
 (12,.int .i64 (↑(D.len d) : Int)),
 (13,.int .i64 (IntKind.wrap .i64 (j + 1)))]
 0 25))
 []
 [(0,
 OBlk.arr 152
 (D.slc (D.hd (hs_2 0 0)) 1
 (List.append (D.rows o)
 (D.rows
 (D.slc (D.hd (hs_1 0 0)) 1
 [[D.slc (D.hd (hs 0 0)) 8
 (List.replicate (Int.toNat (D.getInt d (Int.toNat j) 0))
 [D.int .u8 0,D.int .u8 0,D.int .u8 0,
 D.int .u8 0,D.int .u8 0,D.int .u8 0,
 D.int .u8 0,D.int .u8 0])]])))))]))))))
 (.ret (.dat o)) := by kernel_rfl
theorem ms_go : exec Try.prog [] 200 (unroll (msL d o j)) =
 Tree.br (decide (j < (↑(D.len d) : Int)))
 (.need (0 ≤ j ∧ j < (↑(D.len d) : Int) ∧ D.sz d = 1)
 (.need (D.HasCell d (Int.toNat j) 0 FT.slc)
 (.all fun hs =>
 .need
 (D.sz o = 1 ∧
 D.Fits (D.slc (D.hd (hs 0 0)) 1 [[D.int .i64 (↑(D.len (D.cell d (Int.toNat j) 0)) : Int)]]) 1 ∧
 (D.len o +
 D.len
 (D.slc (D.hd (hs 0 0)) 1 [[D.int .i64 (↑(D.len (D.cell d (Int.toNat j) 0)) : Int)]])) *
 8 ≤
 140737488355328 ∧
 D.len o +
 D.len (D.slc (D.hd (hs 0 0)) 1 [[D.int .i64 (↑(D.len (D.cell d (Int.toNat j) 0)) : Int)]]) ≤
 9223372036854775807)
 (.all fun hs_1 =>
 .leaf
 (Conf.mk
 (SFrm.mk 100 none none
 [Item.inLoop (cA 100 [1,1,0,1,0,0]),Item.inBlock 0,
 Item.code (cA 100 [1,1,1])]
 (mkJ 0
 [(1,SV.fn 101 [] []),(5,.vec 0),(11,.dat d),(12,.int .i64 (↑(D.len d) : Int)),
 (13,.int .i64 (IntKind.wrap .i64 (j + 1)))]
 0 25))
 []
 [(0,
 OBlk.arr 3
 (D.slc (D.hd (hs_1 0 0)) 1
 (List.append (D.rows o)
 (D.rows
 (D.slc (D.hd (hs 0 0)) 1
 [[D.int .i64 (↑(D.len (D.cell d (Int.toNat j) 0)) : Int)]])))))])))))
 (.ret (.dat o)) := by kernel_rfl
end
theorem lawIdx : Law Try.prog 80 ((rdD.two (rdFn 94)).sp spIdxBad) := by
 refine law_in _ (by kernel_rfl) fun H w ⟨d,u⟩ hok hp=>?_
 obtain ⟨hd,hlen⟩ := hp _ (List.mem_singleton.2 rfl)
 simp only at hd hlen
 rw [D.Is.length (α := Int)] at hlen
 apply exec_sound (noCtr _) 200
 rw [show (rdD.two (rdFn 94)).canon (d,u) = [.dat d,.fn 94 [] []] from rfl,cf_in]
 refine runs_loop (fun j : Nat=>cfL d j) (fun j=>j ≤ (d.to Int).length ∧ ((d.to Int).take j).findIdx? badSize = none) (fun j=>(d.to Int).length - j) (fun _=>rfl) ?_ 0 ⟨Nat.zero_le _,by simp⟩
 intro j ⟨hj,hpre⟩ ih
 apply exec_sound (noCtr _) 200
 rw [cf_go]
 have hl := D.Is.length (α := Int) d
 have found : ∀ hc : j < (d.to Int).length,badSize (d.to Int)[j] = true → (d.to Int).findIdx? badSize = some j := by
  intro hc hb
  rw [List.findIdx?_eq_some_iff_getElem]
  refine ⟨hc,hb,fun i hi=>?_⟩
  rw [List.findIdx?_eq_none_iff] at hpre
  have := hpre (d.to Int)[i] (List.mem_take_iff_getElem.2 ⟨i,by omega,rfl⟩)
  simp [this]
 refine ⟨fun hc=>?_,fun hc=>?_⟩
 ·simp [hl] at hc
  obtain ⟨c1,c2,c3⟩ := int_at hd hc
  rw [c3]
  refine ⟨c1,c2,fun hc2=>ret_int ?_,fun hc2=>⟨fun hc3=>ret_int ?_,fun hc3=>?_⟩⟩
  ·simp only [idxP,found hc (by simp [badSize,hc2])]
  ·simp only [idxP,found hc (by simp [badSize,hc3])]
  ·have := ih (j + 1) ⟨hc,by rw [List.take_succ_eq_append_getElem hc,List.findIdx?_append,hpre]; simp at hc2 hc3; simp [badSize]; omega⟩ (by omega)
   rw [← wrap_succ hc hlen] at this
   exact this
 ·simp [hl] at hc
  have : j = (d.to Int).length := by omega
  subst this
  rw [List.take_length] at hpre
  exact ret_int (by simp only [idxP,hpre]; rfl)
theorem lawMapN : Law Try.prog 88 ((rdD.two (rdFn 89)).sp spMapN) := by
 refine law_in _ (by kernel_rfl) fun H w ⟨d,u⟩ hok hp=>?_
 obtain ⟨hd,hlen,hn⟩ := hp _ (List.mem_singleton.2 rfl)
 simp only at hd hlen hn
 have hl := D.Is.length (α := Int) d
 apply exec_sound (noCtr _) 200
 rw [show (rdD.two (rdFn 89)).canon (d,u) = [.dat d,.fn 89 [] []] from rfl,mp_in]
 refine ⟨⟨by omega,by omega,by omega,by omega⟩,fun hs=>?_⟩
 refine runs_loop (fun p : D × Nat=>mpL d p.1 p.2) (fun p=>p.2 ≤ (d.to Int).length ∧ p.1.Is Vol ∧ p.1.sz = 1 ∧ p.1.to Vol = ((d.to Int).take p.2).map volOf) (fun p=>(d.to Int).length - p.2) (fun _=>rfl) ?_
  (.slc (D.hd (hs 0 0)) 1 [],0) ⟨Nat.zero_le _,is_nil _ _,rfl,rfl⟩
 intro ⟨o,j⟩ ⟨hj,ho,hz,hto⟩ ih
 simp only at hj ho hz hto
 have hol := D.Is.length (α := Vol) o
 rw [hto] at hol
 simp only [List.length_map,List.length_take] at hol
 apply exec_sound (noCtr _) 200
 rw [mp_go]
 refine ⟨fun hc=>?_,fun hc=>?_⟩
 ·simp [hl] at hc
  obtain ⟨c1,c2,c3⟩ := int_at hd hc
  have hb := hn _ (List.getElem_mem hc)
  rw [c3]
  refine ⟨c1,c2,⟨hb.1,rfl,by omega,by omega⟩,fun hs1 hs2=>⟨⟨hz,.inr rfl,by simp only [len_slc,List.length_cons,List.length_nil]; omega,by simp only [len_slc,List.length_cons,List.length_nil]; omega⟩,fun hs3=>?_⟩⟩
  obtain ⟨z1,z2⟩ := zvol_is (D.hd (hs1 0 0)) (d.to Int)[j]
  have hr := rows_app (rows_of ho) (vol_one z1)
  obtain ⟨i1,i2⟩ := is_of (h := D.hd (hs3 0 0)) (s := 1) rfl hr
  have := ih (_,j + 1) ⟨hc,i1,rfl,i2.trans (by rw [hto,map_take_snoc _ hc,z2]; rfl)⟩ (by simp only; omega)
  simp only at this
  rw [← wrap_succ hc (by omega)] at this
  exact this
 ·simp [hl] at hc
  have : j = (d.to Int).length := by omega
  subst this
  rw [List.take_length] at hto
  exact ret_one (stands_dat ho hto) rfl
theorem lawMapS : Law Try.prog 100 ((rdD.two (rdFn 101)).sp spMapS) := by
 refine law_in _ (by kernel_rfl) fun H w ⟨d,u⟩ hok hp=>?_
 obtain ⟨hd,hlen⟩ := hp _ (List.mem_singleton.2 rfl)
 simp only at hd hlen
 have hl := D.Is.length (α := Vol) d
 apply exec_sound (noCtr _) 200
 rw [show (rdD.two (rdFn 101)).canon (d,u) = [.dat d,.fn 101 [] []] from rfl,ms_in]
 refine ⟨⟨by omega,by omega,by omega,by omega⟩,fun hs=>?_⟩
 refine runs_loop (fun p : D × Nat=>msL d p.1 p.2) (fun p=>p.2 ≤ (d.to Vol).length ∧ p.1.Is Int ∧ p.1.sz = 1 ∧ p.1.to Int = volSizes ((d.to Vol).take p.2)) (fun p=>(d.to Vol).length - p.2) (fun _=>rfl) ?_
  (.slc (D.hd (hs 0 0)) 1 [],0) ⟨Nat.zero_le _,is_nil _ _,rfl,rfl⟩
 intro ⟨o,j⟩ ⟨hj,ho,hz,hto⟩ ih
 simp only at hj ho hz hto
 have hol := D.Is.length (α := Int) o
 rw [hto] at hol
 simp only [volSizes,List.length_map,List.length_take] at hol
 apply exec_sound (noCtr _) 200
 rw [ms_go]
 refine ⟨fun hc=>?_,fun hc=>?_⟩
 ·simp [hl] at hc
  obtain ⟨c1,c2,c3⟩ := vol_cell hd hc
  refine ⟨⟨by omega,by omega,hd.size hc⟩,c1,fun hs1=>⟨⟨hz,.inr rfl,by simp only [len_slc,List.length_cons,List.length_nil]; omega,by simp only [len_slc,List.length_cons,List.length_nil]; omega⟩,fun hs3=>?_⟩⟩
  have hr := rows_app (rows_of ho) (int_one (D.len (D.cell d j 0)))
  obtain ⟨i1,i2⟩ := is_of (h := D.hd (hs3 0 0)) (s := 1) rfl hr
  have := ih (_,j + 1) ⟨hc,i1,rfl,i2.trans (by rw [hto]; unfold volSizes; rw [map_take_snoc _ hc,c3,D.Is.length (α := Sec)])⟩ (by simp only; omega)
  simp only at this
  rw [← wrap_succ hc (by omega)] at this
  exact this
 ·simp [hl] at hc
  have : j = (d.to Vol).length := by omega
  subst this
  rw [List.take_length] at hto
  exact ret_one (stands_dat ho hto) rfl
theorem lawFits1 : Law Try.prog 97 ((rdD.two rdWt).sp spFits1) := by
 refine law_in _ (by kernel_rfl) fun H w ⟨d,⟨v,s,e⟩⟩ hok hp=>?_
 obtain ⟨⟨hd,hlen,hv⟩,he,hel⟩ := hp _ (List.mem_singleton.2 rfl)
 simp only at hd hlen hv he hel
 have hl := D.Is.length (α := Vol) d
 have hl2 := D.Is.length (α := Sec) e
 have hvl : (volSizes (d.to Vol)).length = (d.to Vol).length := by simp [volSizes]
 apply exec_sound (noCtr _) 200
 rw [show (rdD.two rdWt).canon (d,⟨v,s,e⟩) = [.dat d,.agg [.int .i64 v,.int .i64 s,.dat e]] from rfl,ft_in]
 have f1 : (v < 0 ∨ v ≥ ((d.to Vol).length : Int)) → 7 = fitsErr (volSizes (d.to Vol)) (WtD.wt ⟨v,s,e⟩) := fun h=>by rw [fitsErr_wt,hvl,if_pos h]
 refine ⟨fun h1=>ret_int (f1 (.inl (of_decide_eq_true h1))),fun h1=>⟨fun h2=>ret_int (f1 (.inr (by have := of_decide_eq_true h2; omega))),fun h2=>?_⟩⟩
 have h1' := of_decide_eq_false h1
 have h2' := of_decide_eq_false h2
 have hc : ¬(v < 0 ∨ v ≥ ((d.to Vol).length : Int)) := by omega
 obtain ⟨y,rfl⟩ := Int.eq_ofNat_of_zero_le (show 0 ≤ v by omega)
 have hy : y < (d.to Vol).length := by omega
 obtain ⟨c1,c2,c3⟩ := vol_cell hd hy
 have hvy := hv _ (List.getElem_mem hy)
 have hls := D.Is.length (α := Sec) (d.cell y 0)
 rw [c3] at hvy
 simp only at hvy
 have hg : (volSizes (d.to Vol)).getD (Int.toNat (y : Int)) 0 = ((d.cell y 0).len : Int) := by
  simp only [Int.toNat_natCast,volSizes]
  rw [getD_lt (by simpa using hy)]
  simp only [List.getElem_map,c3,hls]
 have ef : fitsErr (volSizes (d.to Vol)) (WtD.wt ⟨y,s,e⟩) = if (e.to Sec).length = 0 then 1 else if s < 0 ∨ s > ((d.cell y 0).len : Int) - (e.to Sec).length then 2 else 0 := by
  rw [fitsErr_wt,hvl,if_neg hc,hg]
 refine ⟨fun h3=>ret_int ?_,fun h3 hs=>?_⟩
 ·have := of_decide_eq_true h3; rw [ef,if_pos (by omega)]
 have h3' := of_decide_eq_false h3
 have e0 : ¬(e.to Sec).length = 0 := by omega
 rw [if_neg e0] at ef
 refine ⟨fun h4=>?_,fun h4=>?_⟩
 ·have h4' := of_decide_eq_true h4
  rw [if_pos (.inl h4')] at ef
  repeat' first
  | exact h4
  | exact ret_int ef.symm
  | refine ⟨?_,?_⟩
 ·have h4' := of_decide_eq_false h4
  have hw : IntKind.i64.wrap (((d.cell (Int.toNat (y : Int)) 0).len : Int) - (e.len : Int)) = ((d.cell y 0).len : Int) - (e.to Sec).length := by
   simp only [Int.toNat_natCast]; rw [wrap64 (by omega) (by omega),hl2]
  have i0 : 0 ≤ (y : Int) ∧ (y : Int) < (d.len : Int) ∧ d.sz = 1 := ⟨by omega,by omega,hd.size hy⟩
  have fin : ((Tree.br (decide (s > IntKind.i64.wrap (((d.cell (Int.toNat (y : Int)) 0).len : Int) - (e.len : Int)))) (Tree.ret (SV.int .i64 2)) (Tree.ret (SV.int .i64 0))).holds Try.prog ⟨w,H⟩ (RetS w H (.int .i64 (fitsErr (volSizes (d.to Vol)) (WtD.wt ⟨y,s,e⟩))))) := by
   refine ⟨fun h5=>ret_int ?_,fun h5=>ret_int ?_⟩
   ·have := of_decide_eq_true h5; rw [hw] at this; rw [ef,if_pos (.inr this)]
   ·have := of_decide_eq_false h5; rw [hw] at this; rw [ef,if_neg (by omega)]
  repeat' first
  | exact h4
  | exact i0
  | exact c1
  | exact fin
  | refine ⟨?_,?_⟩
section
variable (n j k w : Int) (d e a b i o ha hb hc ga gb gc : D) (v s : Int)
theorem any_in : exec Try.prog [(80,ctrOf ((rdD.two (rdFn 94)).sp spIdxBad))] 200 (entry Try.prog 52 [.dat d,.fn 94 [] []]) =
 Tree.need (D.Is Int d ∧ D.len d ≤ 1048576) (.ret (.bool (decide (idxP (D.to Int d) badSize ≥ 0)))) := by kernel_rfl
theorem cs_in : exec Try.prog [(52,ctrOf ((rdD.two (rdFn 94)).sp spAnyBad))] 200 (entry Try.prog 87 [.dat d]) =
 Tree.br (decide ((↑(D.len d) : Int) < 1)) (.ret (.int .i64 6))
 (.br (decide ((↑(D.len d) : Int) > 8)) (.ret (.int .i64 6))
 (.need (D.Is Int d ∧ D.len d ≤ 1048576)
 (.br (List.any (D.to Int d) badSize) (.ret (.int .i64 2)) (.ret (.int .i64 0))))) := by kernel_rfl
theorem new_in : exec Try.prog [(87,ctrOf (rdD.one.sp spSizes)),(88,ctrOf ((rdD.two (rdFn 89)).sp spMapN))] 200 (entry Try.prog 84 [.dat d]) =
 Tree.need (D.Is Int d ∧ D.len d ≤ 1048576)
 (.br (sizesErr (D.to Int d) != 0) (.ret (SV.tup [.nils,.int .i64 (sizesErr (D.to Int d))]))
 (.need (D.Is Int d ∧ D.len d ≤ 8 ∧ ∀ (n : Int),List.Mem n (D.to Int d) → 0 ≤ n ∧ n ≤ 4096)
 (.all fun hs =>
 .ret (SV.tup [.dat (D.like (hs 0 0) (List.map volOf (D.to Int d))),.int .i64 0])))) := by kernel_rfl
theorem sz_in : exec Try.prog [(100,ctrOf ((rdD.two (rdFn 101)).sp spMapS))] 200 (entry Try.prog 99 [.dat d]) =
 Tree.need (D.Is Vol d ∧ D.len d ≤ 1048576)
 (.all fun hs=>.ret (.dat (D.like (hs 0 0) (volSizes (D.to Vol d))))) := by kernel_rfl
theorem chk_in : exec Try.prog [(99,ctrOf (rdD.one.sp spSzs)),(87,ctrOf (rdD.one.sp spSizes))] 200 (entry Try.prog 96 [.dat d]) =
 Tree.need (D.Is Vol d ∧ D.len d ≤ 1048576)
 (.all fun hs =>
 .need
 (D.Is Int (D.like (hs 0 0) (volSizes (D.to Vol d))) ∧ D.len (D.like (hs 0 0) (volSizes (D.to Vol d))) ≤ 1048576)
 (.ret (.int .i64 (sizesErr (D.to Int (D.like (hs 0 0) (volSizes (D.to Vol d)))))))) := by kernel_rfl
theorem fits_in : exec Try.prog [(96,ctrOf (rdD.one.sp spChkI)),(97,ctrOf ((rdD.two rdWt).sp spFits1))] 200 (entry Try.prog 91 [.dat d,.agg [.int .i64 v,.int .i64 s,.dat e]]) =
 Tree.need (D.Is Vol d ∧ D.len d ≤ 1048576)
 (.br (sizesErr (volSizes (D.to Vol d)) != 0) (.ret (.int .i64 (sizesErr (volSizes (D.to Vol d)))))
 (.need (ImgOk d ∧ WtD.Ok (WtD.mk v s e))
 (.ret (.int .i64 (fitsErr (volSizes (D.to Vol d)) (WtD.wt (WtD.mk v s e))))))) := by kernel_rfl
theorem tb_in : exec Try.prog [] 200 (entry Try.prog 117 [.agg [.dat i,.dat o],.int .i64 n,.int .i64 j]) =
 Tree.ret (SV.tup []) := by kernel_rfl
end
section
variable (n j k w : Int) (d e a b i o ha hb hc : D) (v s : Int)
end
theorem ctIdxOk : Ctrs.Ok Try.prog [(80,ctrOf ((rdD.two (rdFn 94)).sp spIdxBad))] := by
 intro x hx; rw [List.mem_singleton.1 hx]; exact ctrOf_ok lawIdx
theorem lawAny : Law Try.prog 52 ((rdD.two (rdFn 94)).sp spAnyBad) := by
 refine law_in _ (by kernel_rfl) fun H w ⟨d,u⟩ hok hp=>?_
 apply exec_sound ctIdxOk 200
 rw [show (rdD.two (rdFn 94)).canon (d,u) = [.dat d,.fn 94 [] []] from rfl,any_in]
 exact ⟨hp _ (List.mem_singleton.2 rfl),ret_bool (idxP_any _ _)⟩
theorem ctAnyOk : Ctrs.Ok Try.prog [(52,ctrOf ((rdD.two (rdFn 94)).sp spAnyBad))] := by
 intro x hx; rw [List.mem_singleton.1 hx]; exact ctrOf_ok lawAny
theorem lawSizes : Law Try.prog 87 (rdD.one.sp spSizes) := by
 refine law_in _ (by kernel_rfl) fun H w d hok hp=>?_
 obtain ⟨hd,hlen⟩ := hp _ (List.mem_singleton.2 rfl)
 have hl := D.Is.length (α := Int) d
 apply exec_sound ctAnyOk 200
 rw [show rdD.one.canon d = [.dat d] from rfl,cs_in]
 refine ⟨fun hc=>ret_int ?_,fun hc=>⟨fun hc2=>ret_int ?_,fun hc2=>⟨⟨hd,hlen⟩,fun h=>ret_int ?_,fun h=>ret_int ?_⟩⟩⟩
 ·have := of_decide_eq_true hc; unfold sizesErr; rw [if_pos (by omega)]
 ·have := of_decide_eq_true hc2; unfold sizesErr; rw [if_pos (by omega)]
 ·have := of_decide_eq_false hc; have := of_decide_eq_false hc2; unfold sizesErr; rw [if_neg (by omega),if_pos h]
 ·have := of_decide_eq_false hc; have := of_decide_eq_false hc2; unfold sizesErr; rw [if_neg (by omega),if_neg (by simp [h])]
theorem ctNewOk : Ctrs.Ok Try.prog [(87,ctrOf (rdD.one.sp spSizes)),(88,ctrOf ((rdD.two (rdFn 89)).sp spMapN))] := by
 intro x hx
 rcases List.mem_cons.1 hx with rfl | hx
 ·exact ctrOf_ok lawSizes
 ·rw [List.mem_singleton.1 hx]; exact ctrOf_ok lawMapN
theorem lawNewI : Law Try.prog 84 (rdD.one.sp spNewI) := by
 refine law_in _ (by kernel_rfl) fun H w d hok hp=>?_
 obtain ⟨hd,hlen⟩ := hp _ (List.mem_singleton.2 rfl)
 have hl := D.Is.length (α := Int) d
 apply exec_sound ctNewOk 200
 rw [show rdD.one.canon d = [.dat d] from rfl,new_in]
 refine ⟨⟨hd,hlen⟩,fun h=>?_,fun h=>?_⟩
 ·refine ret_oneI stands_nils ?_ rfl
  unfold imgOf
  rw [if_pos (by simpa using h)]
 ·have h0 : sizesErr (d.to Int) = 0 := by simpa using h
  obtain ⟨s1,s2,s3⟩ := sizesErr_ok h0
  refine ⟨⟨hd,by omega,fun n hn=>by have := s3 n hn; omega⟩,fun hs=>ret_oneI stands_like ?_ h0.symm⟩
  unfold imgOf
  rw [if_neg (by simp [h0])]
theorem ctSzOk : Ctrs.Ok Try.prog [(100,ctrOf ((rdD.two (rdFn 101)).sp spMapS))] := by
 intro x hx; rw [List.mem_singleton.1 hx]; exact ctrOf_ok lawMapS
theorem lawSzs : Law Try.prog 99 (rdD.one.sp spSzs) := by
 refine law_in _ (by kernel_rfl) fun H w d hok hp=>?_
 apply exec_sound ctSzOk 200
 rw [show rdD.one.canon d = [.dat d] from rfl,sz_in]
 exact ⟨hp _ (List.mem_singleton.2 rfl),fun hs=>ret_one stands_like rfl⟩
theorem ctChkOk : Ctrs.Ok Try.prog [(99,ctrOf (rdD.one.sp spSzs)),(87,ctrOf (rdD.one.sp spSizes))] := by
 intro x hx
 rcases List.mem_cons.1 hx with rfl | hx
 ·exact ctrOf_ok lawSzs
 ·rw [List.mem_singleton.1 hx]; exact ctrOf_ok lawSizes
theorem lawChkI : Law Try.prog 96 (rdD.one.sp spChkI) := by
 refine law_in _ (by kernel_rfl) fun H w d hok hp=>?_
 obtain ⟨hd,hlen⟩ := hp _ (List.mem_singleton.2 rfl)
 have hl := D.Is.length (α := Vol) d
 apply exec_sound ctChkOk 200
 rw [show rdD.one.canon d = [.dat d] from rfl,chk_in]
 refine ⟨⟨hd,hlen⟩,fun hs=>⟨⟨D.like_is _ _,?_⟩,ret_int (by rw [D.like_to])⟩⟩
 rw [D.Is.length (α := Int),D.like_to]; simp only [volSizes,List.length_map]; omega
theorem ctFitsOk : Ctrs.Ok Try.prog [(96,ctrOf (rdD.one.sp spChkI)),(97,ctrOf ((rdD.two rdWt).sp spFits1))] := by
 intro x hx
 rcases List.mem_cons.1 hx with rfl | hx
 ·exact ctrOf_ok lawChkI
 ·rw [List.mem_singleton.1 hx]; exact ctrOf_ok lawFits1
theorem lawFitsI : Law Try.prog 91 ((rdD.two rdWt).sp spFitsI) := by
 refine law_in _ (by kernel_rfl) fun H w ⟨d,⟨v,s,e⟩⟩ hok hp=>?_
 obtain ⟨hd,he⟩ := hp _ (List.mem_singleton.2 rfl)
 apply exec_sound ctFitsOk 200
 rw [show (rdD.two rdWt).canon (d,⟨v,s,e⟩) = [.dat d,.agg [.int .i64 v,.int .i64 s,.dat e]] from rfl,fits_in]
 refine ⟨⟨hd.1,hd.2.1⟩,fun h=>ret_int ?_,fun h=>⟨⟨hd,he⟩,ret_int ?_⟩⟩
 ·unfold fitsI; rw [if_pos (by simpa using h)]
 ·unfold fitsI; rw [if_neg (by simpa using h)]
def ctC1 : Ctrs := [(84,ctrOf (rdD.one.sp spNewI)),(91,ctrOf ((rdD.two rdWt).sp spFitsI))]
section
variable (n j k w : Int) (d e a b i o ha hb hc : D) (v s : Int)
theorem ck_in : exec Try.prog ctC1 400 (entry Try.prog 90 [.agg [.dat ha,.dat hb,.dat hc]]) =
 Tree.need (D.Is Int ha ∧ D.len ha ≤ 1048576)
 (.all fun hs =>
 .br (sizesErr (D.to Int ha) != 0)
 (.ret
 (SV.tup [.agg [.nils,.nils,.nils,.nils,.nils],.int .i64 (sizesErr (D.to Int ha))]))
 (.br (decide ((↑(D.len hb) : Int) > 4096))
 (.ret (SV.tup [.agg [.nils,.nils,.nils,.nils,.nils],.int .i64 6]))
 (.leaf
 (Conf.mk
 (SFrm.mk 90 none none
 [Item.inLoop (cA 90 [1,1,1,1,1,0,1,0,0]),Item.inBlock 0,
 Item.code (cA 90 [1,1,1,1,1,1])]
 (mkJ 0
 [(1,.ptr 0 0),(2,.ptr 1 0),(4,.ptr 2 0),(5,.dat (D.like (hs 0 0) (imgOf (D.to Int ha)))),
 (31,.dat hb),(32,.int .i64 (↑(D.len hb) : Int)),(33,.int .i64 0)]
 0 71))
 []
 [(0,OBlk.cells 73 [.dat ha,.dat hb,.dat hc]),
 (1,OBlk.cells 163 [.nils,.nils,.nils,.nils,.nils]),
 (2,OBlk.cells 163 [.dat ha,.dat hb,.dat hc,.nils,.nils])])))) := by kernel_rfl
end
def ckA (ha hb hc im : D) (j : Int) : Conf := Conf.mk (SFrm.mk 90 none none [Item.inLoop (cA 90 [1,1,1,1,1,0,1,0,0]),Item.inBlock 0,Item.code (cA 90 [1,1,1,1,1,1])]
 (mkJ 0 [(1,.ptr 0 0),(2,.ptr 1 0),(4,.ptr 2 0),(5,.dat im),(31,.dat hb),(32,.int .i64 hb.len),(33,.int .i64 j)] 0 71)) [] [(0,.cells 73 [.dat ha,.dat hb,.dat hc]),(1,.cells 163 [.nils,.nils,.nils,.nils,.nils]),(2,.cells 163 [.dat ha,.dat hb,.dat hc,.nils,.nils])]
section
variable (n j k w : Int) (d e a b i o ha hb hc im : D) (v s : Int)
theorem ckA_go : exec Try.prog ctC1 400 (unroll (ckA ha hb hc im j)) =
 Tree.br (decide (j < (↑(D.len hb) : Int)))
 (.need (0 ≤ j ∧ j < (↑(D.len hb) : Int) ∧ D.sz hb = 3)
 (.need (D.HasCells hb (Int.toNat j) 0 [FT.int .i64,FT.int .i64,FT.slc])
 (.need
 (ImgOk im ∧
 WtD.Ok (WtD.mk (D.getInt hb (Int.toNat j) 0) (D.getInt hb (Int.toNat j) 1) (D.cell hb (Int.toNat j) 2)))
 (.br
 (fitsI (D.to Vol im)
 (WtD.wt
 (WtD.mk (D.getInt hb (Int.toNat j) 0) (D.getInt hb (Int.toNat j) 1) (D.cell hb (Int.toNat j) 2))) !=
 0)
 (.ret
 (SV.tup
 [.agg [.nils,.nils,.nils,.nils,.nils],
 .int .i64
 (fitsI (D.to Vol im)
 (WtD.wt
 (WtD.mk (D.getInt hb (Int.toNat j) 0) (D.getInt hb (Int.toNat j) 1)
 (D.cell hb (Int.toNat j) 2))))]))
 (.leaf
 (Conf.mk
 (SFrm.mk 90 none none
 [Item.inLoop (cA 90 [1,1,1,1,1,0,1,0,0]),Item.inBlock 0,
 Item.code (cA 90 [1,1,1,1,1,1])]
 (mkJ 0
 [(1,.ptr 0 0),(2,.ptr 1 0),(4,.ptr 2 0),(5,.dat im),(31,.dat hb),
 (32,.int .i64 (↑(D.len hb) : Int)),
 (33,.int .i64 (IntKind.wrap .i64 (j + 1)))]
 0 71))
 []
 [(0,OBlk.cells 73 [.dat ha,.dat hb,.dat hc]),
 (1,OBlk.cells 163 [.nils,.nils,.nils,.nils,.nils]),
 (2,OBlk.cells 163 [.dat ha,.dat hb,.dat hc,.nils,.nils])]))))))
 (.leaf
 (Conf.mk
 (SFrm.mk 90 none none
 [Item.inLoop (cA 90 [1,1,1,1,1,1,0,1,0,0]),Item.inBlock 2,
 Item.code (cA 90 [1,1,1,1,1,1,1])]
 (mkJ 0
 [(1,.ptr 0 0),(2,.ptr 1 0),(4,.ptr 2 0),(46,.dat hc),
 (47,.int .i64 (↑(D.len hc) : Int)),(48,.int .i64 0)]
 0 71))
 []
 [(0,OBlk.cells 73 [.dat ha,.dat hb,.dat hc]),
 (1,OBlk.cells 163 [.nils,.nils,.nils,.nils,.nils]),
 (2,OBlk.cells 163 [.dat ha,.dat hb,.dat hc,.nils,.nils])])) := by kernel_rfl
end
def ckB (ha hb hc t u : D) (j : Int) : Conf := Conf.mk (SFrm.mk 90 none none [Item.inLoop (cA 90 [1,1,1,1,1,1,0,1,0,0]),Item.inBlock 2,Item.code (cA 90 [1,1,1,1,1,1,1])]
 (mkJ 0 [(1,.ptr 0 0),(2,.ptr 1 0),(4,.ptr 2 0),(46,.dat hc),(47,.int .i64 hc.len),(48,.int .i64 j)] 0 71)) [] [(0,.cells 73 [.dat ha,.dat hb,.dat hc]),(1,.cells 163 [.nils,.nils,.nils,.nils,.nils]),(2,.cells 163 [.dat ha,.dat hb,.dat hc,.vec 3,.vec 4]),(3,.arr 3 t),(4,.arr 3 u)]
section
variable (n j k w : Int) (ha hb hc t u : D) (v s : Int)
theorem ckB_go : 
 let z2 : Prop := (decide (D.getInt hc (Int.toNat j) 1 < 0) = false)
 let z3 : Prop := (decide (D.getInt hc (Int.toNat j) 1 < 0) = true)
 let z4 : List SV := [.nils,.nils,.nils,.nils,.nils]
 let z5 := (SFrm.mk 90 none none [Item.inLoop (cA 90 [1,1,1,1,1,1,0,1,0,0]),Item.inBlock 2,Item.code (cA 90 [1,1,1,1,1,1,1])] (mkJ 0 [(1,.ptr 0 0),(2,.ptr 1 0),(4,.ptr 2 0),(46,.dat hc),(47,.int .i64 (↑(D.len hc) : Int)),(48,.int .i64 (IntKind.wrap .i64 (j + 1)))] 0 71))
 let z1 : Tree := (.leaf (Conf.mk z5 [] [(0,OBlk.cells 73 [.dat ha,.dat hb,.dat hc]),(1,OBlk.cells 163 z4),(2,OBlk.cells 163 [.dat ha,.dat hb,.dat hc,.vec 3,.vec 4]),(3,OBlk.arr 3 t),(4,OBlk.arr 3 u)]))
 let z6 : Tree := (.ret (SV.tup [.agg z4,.int .i64 3]))
 let z7 := (D.getInt hc (Int.toNat j) 1)
 exec Try.prog ctC1 600 (unroll (ckB ha hb hc t u j)) =
 Tree.br (decide (j < (↑(D.len hc) : Int))) (.need (0 ≤ j ∧ j < (↑(D.len hc) : Int) ∧ D.sz hc = 2) (.need (D.HasCells hc (Int.toNat j) 0 [FT.int .i64,FT.int .i64]) (.br (decide (D.getInt hc (Int.toNat j) 0 = 0))
 (.all fun hs=>.br (D.getInt hc (Int.toNat j) 1 != (↑(D.len t) : Int)) (.need ((D.getInt hc (Int.toNat j) 1 != (↑(D.len t) : Int)) = true) (.need ((D.getInt hc (Int.toNat j) 1 != (↑(D.len t) : Int)) = true)
 (.need ((D.getInt hc (Int.toNat j) 1 != (↑(D.len t) : Int)) = true) (.need ((D.getInt hc (Int.toNat j) 1 != (↑(D.len t) : Int)) = true) (.need ((D.getInt hc (Int.toNat j) 1 != (↑(D.len t) : Int)) = true)
 (.need ((D.getInt hc (Int.toNat j) 1 != (↑(D.len t) : Int)) = true) (.need ((D.getInt hc (Int.toNat j) 1 != (↑(D.len t) : Int)) = true) (.need ((D.getInt hc (Int.toNat j) 1 != (↑(D.len t) : Int)) = true)
 (.need ((D.getInt hc (Int.toNat j) 1 != (↑(D.len t) : Int)) = true) (.need ((D.getInt hc (Int.toNat j) 1 != (↑(D.len t) : Int)) = true) (.br true z6 z1))))))))))) (.need ((D.getInt hc (Int.toNat j) 1 !=
 (↑(D.len t) : Int)) = false) (.need ((D.getInt hc (Int.toNat j) 1 != (↑(D.len t) : Int)) = false) (.need ((D.getInt hc (Int.toNat j) 1 != (↑(D.len t) : Int)) = false) (.need ((D.getInt hc (Int.toNat j) 1 !=
 (↑(D.len t) : Int)) = false) (.need ((D.getInt hc (Int.toNat j) 1 != (↑(D.len t) : Int)) = false) (.need ((D.getInt hc (Int.toNat j) 1 != (↑(D.len t) : Int)) = false) (.need ((D.getInt hc (Int.toNat j) 1 !=
 (↑(D.len t) : Int)) = false) (.need ((D.getInt hc (Int.toNat j) 1 != (↑(D.len t) : Int)) = false) (.need ((D.getInt hc (Int.toNat j) 1 != (↑(D.len t) : Int)) = false) (.need ((D.getInt hc (Int.toNat j) 1 !=
 (↑(D.len t) : Int)) = false) (.br (decide (D.getInt hc (Int.toNat j) 1 ≥ (↑(D.len hb) : Int))) (.br true z6 z1) (.all fun hs=>.need (D.sz t = 1 ∧ D.Fits (D.slc (D.hd (hs 8 0)) 1 [[D.int .i64 j]]) 1 ∧
 (D.len t + D.len (D.slc (D.hd (hs 8 0)) 1 [[D.int .i64 j]])) * 8 ≤ 140737488355328 ∧ D.len t + D.len (D.slc (D.hd (hs 8 0)) 1 [[D.int .i64 j]]) ≤ 9223372036854775807) (.need (D.sz u = 1 ∧ D.Fits (D.slc
 (D.hd (hs 15 0)) 1 [[D.int .i64 (Int.neg 1)]]) 1 ∧ (D.len u + D.len (D.slc (D.hd (hs 15 0)) 1 [[D.int .i64 (Int.neg 1)]])) * 8 ≤ 140737488355328 ∧ D.len u + D.len (D.slc (D.hd (hs 15 0)) 1 [[D.int .i64
 (Int.neg 1)]]) ≤ 9223372036854775807) (.br false (.ret (SV.tup [.agg z4,.int .i64 0])) (.leaf (Conf.mk z5 [] [(0,OBlk.cells 73 [.dat ha,.dat hb,.dat hc]),(1,OBlk.cells 163 z4),(2,OBlk.cells 163 [.dat ha,.dat hb,.dat hc,.vec 3,.vec 4]),
 (3,OBlk.arr 3 (D.slc (D.hd (hs 9 0)) 1 (List.append (D.rows t) (D.rows (D.slc (D.hd (hs 8 0)) 1 [[D.int .i64 j]]))))),(4,OBlk.arr 3 (D.slc (D.hd (hs 16 0)) 1 (List.append (D.rows u) (D.rows (D.slc (D.hd
 (hs 15 0)) 1 [[D.int .i64 (Int.neg 1)]])))))]))))))))))))))))) (.br (decide (D.getInt hc (Int.toNat j) 0 = 1)) (.all fun hs=>.br (decide (D.getInt hc (Int.toNat j) 1 < 0)) (.need z3 (.need z3 (.need z3
 (.need z3 (.need z3 (.need z3 (.need z3 (.need z3 (.need z3 (.need z3 (.br true (.ret (SV.tup [.agg z4,.int .i64 7])) z1))))))))))) (.need z2 (.need z2 (.need z2 (.need z2 (.need z2 (.need z2 (.need z2
 (.need z2 (.need z2 (.need z2 (.br (decide (D.getInt hc (Int.toNat j) 1 ≥ (↑(D.len t) : Int))) (.br true (.ret (SV.tup [.agg z4,.int .i64 7])) z1) (.all fun hs=>.need (0 ≤ D.getInt hc (Int.toNat j) 1 ∧ D.getInt hc
 (Int.toNat j) 1 < (↑(D.len u) : Int) ∧ D.sz u = 1) (.need (D.HasCell u (Int.toNat z7) 0 (FT.int .i64) ∧ D.sz u = 1) (.br (decide (D.getInt u (Int.toNat z7) 0 ≥ 0)) (.br true (.ret (SV.tup [.agg z4,.int .i64 8])) z1)
 (.all fun hs=>.need (0 ≤ D.getInt hc (Int.toNat j) 1 ∧ D.getInt hc (Int.toNat j) 1 < (↑(D.len u) : Int) ∧ D.sz u = 1) (.need (Int.toNat z7 < D.len u ∧ 1 ≤ D.sz u ∧ D.sz u = 1) (.br false (.ret (SV.tup [.agg z4,.int .i64 0]))
 (.leaf (Conf.mk z5 [] [(0,OBlk.cells 73 [.dat ha,.dat hb,.dat hc]),(1,OBlk.cells 163 z4),(2,OBlk.cells 163 [.dat ha,.dat hb,.dat hc,.vec 3,.vec 4]),(3,OBlk.arr 3 t),(4,OBlk.arr 3 (D.setCells u
 (Int.toNat z7) 0 [D.int .i64 j]))])))))))))))))))))))) (.br true z6 z1))))) (.br (decide ((↑(D.len t) : Int) < (↑(D.len hb) : Int))) z6 (.ret (SV.tup [.agg [.dat ha,.dat hb,.dat hc,.dat t,.dat u],.int .i64 0]))) := by
 intros; kernel_rfl
end
theorem ctC1Ok : Ctrs.Ok Try.prog ctC1 := by
  intro x hx
  rcases List.mem_cons.1 hx with rfl | hx
  · exact ctrOf_ok lawNewI
  · rw [List.mem_singleton.1 hx]; exact ctrOf_ok lawFitsI
theorem ckB_loop {H : HV} {w : World} {ha hb hc : D} (hR : (HiD.mk ha hb hc).Right) (h1 : sizesErr (ha.to Int) = 0) (h2 : ¬(hb.to Wt).length > 4096) (h3 : firstErr (ha.to Int) (hb.to Wt) = 0) :
    Runs Try.prog ⟨w,H⟩ (ckB ha hb hc (.slc none 1 []) (.slc none 1 []) 0) (RetD w H (ckSV ⟨ha,hb,hc⟩)) := by
  obtain ⟨ra,rb,rc,la,lb,lc,rd⟩ := hR
  simp only at ra rb rc la lb lc rd
  have el := D.Is.length (α := Ev) hc
  have bl := D.Is.length (α := Wt) hb
  have errs : ∀ {i : Nat} (hi : i < (hc.to Ev).length) (h0 : (runEv (hb.to Wt).length (hc.to Ev) i).1 = 0) {k : Int},(evStep (hb.to Wt).length i (runEv (hb.to Wt).length (hc.to Ev) i).2 (hc.to Ev)[i]).1 = k → k ≠ 0 → checkH (HiD.mk ha hb hc).hist = (k,zTl) :=
    fun hi h0=>fun hk hk0=>checkH_evErr (h := (HiD.mk ha hb hc).hist) h1 h2 h3 hi h0 hk hk0
  refine runs_loop (fun p : (D × D) × Nat=>ckB ha hb hc p.1.1 p.1.2 p.2) (fun p=>p.2 ≤ (hc.to Ev).length ∧ (runEv (hb.to Wt).length (hc.to Ev) p.2).1 = 0 ∧ (p.1.1.Is Int ∧ p.1.1.sz = 1 ∧ p.1.1.to Int = (runEv (hb.to Wt).length (hc.to Ev) p.2).2.issued) ∧
    (p.1.2.Is Int ∧ p.1.2.sz = 1 ∧ p.1.2.to Int = (runEv (hb.to Wt).length (hc.to Ev) p.2).2.acked)) (fun p=>(hc.to Ev).length - p.2) (fun _=>rfl) ?_ ((.slc none 1 [],.slc none 1 []),0) ⟨Nat.zero_le _,rfl,⟨is_nil _ _,rfl,rfl⟩,⟨is_nil _ _,rfl,rfl⟩⟩
  intro ⟨⟨t,u⟩,j⟩ ⟨hj,h0,⟨ti,ts,tt⟩,ui,us,ut⟩ ih
  simp only at hj h0 ti ts tt ui us ut
  have hto := runEv_ok (n := (hb.to Wt).length) (l := hc.to Ev) j hj h0
  have tl := D.Is.length (α := Int) t
  have ul := D.Is.length (α := Int) u
  rw [tt] at tl
  rw [ut] at ul
  have hlen := hto.len
  have hle := hto.le
  show Runs Try.prog ⟨w,H⟩ (unroll (ckB ha hb hc t u j)) (RetD w H (ckSV ⟨ha,hb,hc⟩))
  apply exec_sound ctC1Ok 600
  rw [ckB_go]
  refine ⟨fun hcj=>?_,fun hcj=>?_⟩
  · have hcj : j < (hc.to Ev).length := by have := of_decide_eq_true hcj; omega
    obtain ⟨c1,c2,c3⟩ := ev_cell rc hcj
    have c0 : 0 ≤ (j : Int) ∧ (j : Int) < (hc.len : Int) ∧ hc.sz = 2 := ⟨by omega,by omega,rc.size hcj⟩
    have hstep := runEv_step (n := (hb.to Wt).length) hcj h0
    generalize hev : (hc.to Ev)[j] = ev at c2 c3 hstep
    obtain ⟨k,x⟩ := ev
    simp only at c2 c3
    have g0 : hc.getInt (Int.toNat (j : Int)) 0 = k := c2
    have g1 : hc.getInt (Int.toNat (j : Int)) 1 = x := c3
    rw [g0,g1]
    generalize hrt : runEv (hb.to Wt).length (hc.to Ev) j = rt at *
    have errs' : ∀ {q : Int},(evStep (hb.to Wt).length j rt.2 ⟨k,x⟩).1 = q → q ≠ 0 → checkH (HiD.mk ha hb hc).hist = (q,zTl) := fun hq hq0=>errs hcj (by rw [hrt]; exact h0) (by rw [hrt,hev]; exact hq) hq0
    have nxt : ∀ (t' u' : D),t'.Is Int → t'.sz = 1 → u'.Is Int → u'.sz = 1 → (evStep (hb.to Wt).length j rt.2 ⟨k,x⟩) = (0,⟨t'.to Int,u'.to Int⟩) → Runs Try.prog ⟨w,H⟩ (ckB ha hb hc t' u' (IntKind.i64.wrap ((j : Int) + 1))) (RetD w H (ckSV ⟨ha,hb,hc⟩)) := fun t' u' a1 a2 a3 a4 he=>by
      have := ih ((t',u'),j + 1) ⟨hcj,by rw [hstep,he],⟨a1,a2,by rw [hstep,he]⟩,a3,a4,by rw [hstep,he]⟩ (by simp only; omega)
      simp only at this
      rw [← wrap_succ hcj (by omega)] at this
      exact this
    refine ⟨c0,c1,fun hk=>?_,fun hk=>⟨fun hk1 hs=>?_,fun hk1=>?_⟩⟩
    · have hk : k = 0 := of_decide_eq_true hk
      subst hk
      refine fun hs=>⟨fun hx=>?_,fun hx=>?_⟩
      · have hx' : x ≠ (t.len : Int) := by simpa using hx
        have fin := ret_ck0 (P := Try.prog) (w := w) (H := H) (errs' (q := 3) (by unfold evStep; rw [if_pos rfl,if_pos (by simp only; omega)]) (by decide)) (by decide)
        repeat' first
        | exact hx
        | exact fin
        | exact fun h=>absurd h (by decide)
        | exact fun _=>fin
        | refine ⟨?_,?_⟩
      · have hx' : x = (t.len : Int) := by simpa using hx
        have issN : decide (x ≥ (hb.len : Int)) = false → ∀ h1 h2 h3 h4 : Hd,Runs Try.prog ⟨w,H⟩ (ckB ha hb hc (.slc h1 1 (List.append t.rows (D.rows (.slc h2 1 [[.int .i64 (j : Int)]])))) (.slc h3 1 (List.append u.rows (D.rows (.slc h4 1 [[.int .i64 (Int.neg 1)]])))) (IntKind.i64.wrap ((j : Int) + 1))) (RetD w H (ckSV ⟨ha,hb,hc⟩)) := fun hy h1 h2 h3 h4=>by
          have hy' := of_decide_eq_false hy
          obtain ⟨p1,p2⟩ := is_of (h := h1) (s := 1) rfl (rows_app (rows_of ti) (int_one (j : Int)))
          obtain ⟨q1,q2⟩ := is_of (h := h3) (s := 1) rfl (rows_app (rows_of ui) (int_one (Int.neg 1)))
          refine nxt _ _ p1 rfl q1 rfl ?_
          unfold evStep
          rw [if_pos rfl,if_neg (by simp only; omega)]
          rw [show (D.rows (.slc h2 1 [[.int .i64 (j : Int)]])) = [[.int .i64 (j : Int)]] from rfl,show (D.rows (.slc h4 1 [[.int .i64 (Int.neg 1)]])) = [[.int .i64 (Int.neg 1)]] from rfl,p2,q2,tt,ut]
          rfl
        repeat' first
        | exact hx
        | exact fun hy=>⟨fun _=>ret_ck0 (errs' (q := 3) (by have := of_decide_eq_true hy; unfold evStep; rw [if_pos rfl,if_pos (by simp only; omega)]) (by decide)) (by decide),fun h=>absurd h (by decide)⟩
        | (intro hy hs3; refine ⟨⟨ts,.inr rfl,?_,?_⟩,⟨us,.inr rfl,?_,?_⟩,fun h=>absurd h (by decide),fun _=>?_⟩)
        | exact issN hy _ _ _ _
        | (simp only [len_slc,List.length_cons,List.length_nil]; omega)
        | refine ⟨?_,?_⟩
    · have hk : ¬k = 0 := of_decide_eq_false hk
      have hk1 : k = 1 := of_decide_eq_true hk1
      subst hk1
      refine ⟨fun hx=>?_,fun hx=>?_⟩
      · have hx' : x < 0 := of_decide_eq_true hx
        have fin := ret_ck0 (P := Try.prog) (w := w) (H := H) (errs' (q := 7) (by unfold evStep; rw [if_neg hk,if_pos rfl,if_pos (by simp only; omega)]) (by decide)) (by decide)
        repeat' first
        | exact hx
        | exact fin
        | exact fun h=>absurd h (by decide)
        | exact fun _=>fin
        | refine ⟨?_,?_⟩
      · have hx' : ¬x < 0 := of_decide_eq_false hx
        repeat' first
        | exact hx
        | exact fun hy=>⟨fun _=>ret_ck0 (errs' (q := 7) (by have := of_decide_eq_true hy; unfold evStep; rw [if_neg hk,if_pos rfl,if_pos (by simp only; omega)]) (by decide)) (by decide),fun h=>absurd h (by decide)⟩
        | exact fun hy hs3=>by
            have hy' := of_decide_eq_false hy
            obtain ⟨y,rfl⟩ := Int.eq_ofNat_of_zero_le (show 0 ≤ x by omega)
            have hyl : y < (u.to Int).length := by rw [ut]; omega
            obtain ⟨d1,d2,d3⟩ := int_at ui hyl
            have hgd : rt.2.acked.getD (Int.toNat (y : Int)) 0 = u.getInt (Int.toNat (y : Int)) 0 := by rw [← ut,d3,Int.toNat_natCast,getD_lt hyl]
            refine ⟨d1,⟨d2,us⟩,fun hz=>⟨fun _=>ret_ck0 (errs' (q := 8) ?_ (by decide)) (by decide),fun h=>absurd h (by decide)⟩,fun hz hs4=>⟨d1,⟨by rw [D.Is.length (α := Int)]; simpa using hyl,by rw [us]; decide,us⟩,fun h=>absurd h (by decide),fun _=>?_⟩⟩
            · have := of_decide_eq_true hz
              unfold evStep; rw [if_neg hk,if_pos rfl,if_neg (by simp only; omega),if_pos (by simp only [hgd]; exact this)]
            · have := of_decide_eq_false hz
              obtain ⟨q1,q2⟩ := set_full ui (i := Int.toNat (y : Int)) (by simpa using hyl) (xs := [D.int IntKind.i64 (j : Int)]) (x := (j : Int)) rfl (ok_int _) rfl
              refine nxt _ _ ti ts q1 us ?_
              unfold evStep; rw [if_neg hk,if_pos rfl,if_neg (by simp only; omega),if_neg (by simp only [hgd]; exact this),q2,tt,ut]
        | refine ⟨?_,?_⟩
    · have hk : ¬k = 0 := of_decide_eq_false hk
      have hk1 : ¬k = 1 := of_decide_eq_false hk1
      exact ⟨fun _=>ret_ck0 (errs' (q := 3) (by unfold evStep; rw [if_neg hk,if_neg hk1]) (by decide)) (by decide),fun h=>absurd h (by decide)⟩
  · have : j = (hc.to Ev).length := by have := of_decide_eq_false hcj; omega
    subst this
    have hall := checkH_ev (h := (HiD.mk ha hb hc).hist) h1 h2 h3
    have h0' : ¬((runEv (HiD.mk ha hb hc).hist.writes.length (HiD.mk ha hb hc).hist.events (HiD.mk ha hb hc).hist.events.length).1 ≠ 0) := by
      show ¬((runEv (hb.to Wt).length (hc.to Ev) (hc.to Ev).length).1 ≠ 0)
      simp [h0]
    rw [if_neg h0'] at hall
    refine ⟨fun hy=>ret_ck0 (e := 3) ?_ (by decide),fun hy=>ret_ck1 (x := ⟨ha,hb,hc⟩) ti ui ?_⟩
    · have := of_decide_eq_true hy
      rw [hall,if_pos]
      show (runEv (hb.to Wt).length (hc.to Ev) (hc.to Ev).length).2.issued.length < (hb.to Wt).length
      omega
    · have := of_decide_eq_false hy
      rw [hall,if_neg]
      · rw [tt,ut]; rfl
      · show ¬(runEv (hb.to Wt).length (hc.to Ev) (hc.to Ev).length).2.issued.length < (hb.to Wt).length
        omega
theorem lawCk : Law Try.prog 90 (rdHi.one.sp spCk) := by
  refine law_in _ (by kernel_rfl) fun H w ⟨ha,hb,hc⟩ hok hp=>?_
  have hR : (HiD.mk ha hb hc).Right := hp _ (List.mem_singleton.2 rfl)
  obtain ⟨ra,rb,rc,la,lb,lc,rd⟩ := id hR
  simp only at ra rb rc la lb lc rd
  have al := D.Is.length (α := Int) ha
  have bl := D.Is.length (α := Wt) hb
  apply exec_sound ctC1Ok 400
  rw [show rdHi.one.canon ⟨ha,hb,hc⟩ = [.agg [.dat ha,.dat hb,.dat hc]] from rfl,ck_in]
  refine ⟨⟨ra,la⟩,fun hs=>⟨fun h=>?_,fun h=>⟨fun h2=>?_,fun h2=>?_⟩⟩⟩
  · have h' : sizesErr (ha.to Int) ≠ 0 := by simpa using h
    exact ret_ck0 (checkH_sz (h := (HiD.mk ha hb hc).hist) h') h'
  · have h' : sizesErr (ha.to Int) = 0 := by simpa using h
    have := of_decide_eq_true h2
    exact ret_ck0 (checkH_many (h := (HiD.mk ha hb hc).hist) h' (by show (hb.to Wt).length > 4096; omega)) (by decide)
  have h1 : sizesErr (ha.to Int) = 0 := by simpa using h
  have h2 : ¬(hb.to Wt).length > 4096 := by have := of_decide_eq_false h2; omega
  have im : ImgOk ((hs 0 0).like (imgOf (ha.to Int))) := by
    refine ⟨D.like_is _ _,?_,fun v hv=>?_⟩
    · rw [D.Is.length (α := Vol),D.like_to]
      unfold imgOf
      rw [if_neg (by simp [h1])]
      simp only [List.length_map]; omega
    · rw [D.like_to] at hv
      unfold imgOf at hv
      rw [if_neg (by simp [h1])] at hv
      obtain ⟨n,hn,rfl⟩ := List.mem_map.1 hv
      have := (sizesErr_ok h1).2.2 n hn
      simp only [volOf,List.length_replicate]; omega
  generalize hIm : (hs 0 0).like (imgOf (ha.to Int)) = I at im
  have hIt : I.to Vol = imgOf (ha.to Int) := by rw [← hIm,D.like_to]
  refine runs_loop (fun j : Nat=>ckA ha hb hc I j) (fun j=>j ≤ (hb.to Wt).length ∧ firstErr (ha.to Int) ((hb.to Wt).take j) = 0) (fun j=>(hb.to Wt).length - j) (fun _=>rfl) ?_ 0 ⟨Nat.zero_le _,rfl⟩
  intro j ⟨hj,hpre⟩ ih
  apply exec_sound ctC1Ok 400
  rw [ckA_go]
  refine ⟨fun hcj=>?_,fun hcj=>?_⟩
  · have hcj : j < (hb.to Wt).length := by have := of_decide_eq_true hcj; omega
    obtain ⟨c1,c2,c3⟩ := wt_cell rb hcj
    have hw : WtD.wt ⟨hb.getInt (Int.toNat (j : Int)) 0,hb.getInt (Int.toNat (j : Int)) 1,hb.cell (Int.toNat (j : Int)) 2⟩ = (hb.to Wt)[j] := c3.symm
    have hwd := rd _ (List.getElem_mem hcj)
    rw [c3] at hwd
    have hok2 : WtD.Ok ⟨hb.getInt (Int.toNat (j : Int)) 0,hb.getInt (Int.toNat (j : Int)) 1,hb.cell (Int.toNat (j : Int)) 2⟩ := ⟨c2,by rw [D.Is.length (α := Sec)]; exact hwd⟩
    rw [hw,hIt,fitsI_img h1]
    have ft := firstErr_take (s := ha.to Int) hcj
    rw [hpre,if_neg (by simp)] at ft
    refine ⟨⟨by omega,by omega,rb.size hcj⟩,c1,⟨im,hok2⟩,fun he=>?_,fun he=>?_⟩
    · have he : fitsErr (ha.to Int) (hb.to Wt)[j] ≠ 0 := by simpa using he
      have hf := firstErr_of_take (s := ha.to Int) (l := hb.to Wt) (i := j + 1) (by rw [ft]; exact he)
      rw [ft] at hf
      exact ret_ck0 ((checkH_fit (h := (HiD.mk ha hb hc).hist) h1 h2 (by show firstErr (ha.to Int) (hb.to Wt) ≠ 0; rw [hf]; exact he)).trans (by show (firstErr (ha.to Int) (hb.to Wt),zTl) = _; rw [hf])) he
    · have he : fitsErr (ha.to Int) (hb.to Wt)[j] = 0 := by simpa using he
      have := ih (j + 1) ⟨hcj,by rw [ft,he]⟩ (by omega)
      rw [← wrap_succ hcj (by omega)] at this
      exact this
  · have : j = (hb.to Wt).length := by have := of_decide_eq_false hcj; omega
    subst this
    rw [List.take_length] at hpre
    exact vecIn2_to 9 3 1 (some 2) 3 10 3 1 (some 2) 4 (ckB ha hb hc (.slc none 1 []) (.slc none 1 []) 0) (by kernel_rfl) (ckB_loop hR h1 h2 hpre)

def ctK : Ctrs := [(54,oCtr (spClone Int 3)),(93,oCtr (spClone Sec 151)),(98,oCtr (spClone Ev 79))]
section
variable (n j k w : Int) (d e a b i o ha hb hc : D) (v s : Int)
theorem cl1_in : execT Try.prog [] (fun _=>false) 19 (entry Try.prog 54 [.dat d]) =
 Tree.br
 (nilOf
 (evS
 (putS [.dat d,SV.undef,.nils,SV.undef,SV.undef,SV.undef,SV.undef,SV.undef] (some 3)
 (evS [.dat d,SV.undef,.nils,SV.undef,SV.undef,SV.undef,SV.undef,SV.undef] (Operand.tmp 0)))
 (Operand.tmp 3))
 d)
 (.ret .nils)
 (.all fun hs =>
 .need
 (D.sz (D.slc (D.hd (hs 0 0)) 1 []) = 1 ∧
 D.Fits d 1 ∧
 (D.len (D.slc (D.hd (hs 0 0)) 1 []) + D.len d) * 8 ≤ 140737488355328 ∧
 D.len (D.slc (D.hd (hs 0 0)) 1 []) + D.len d ≤ 9223372036854775807)
 (.all fun hs_1 =>
 .leaf
 (Conf.mk
 (SFrm.mk 54 none none [Item.code (cA 54 [1,0,1,0,1])]
 (mkU
 [(0,.dat d),(2,.vec 1007),(3,.dat d),
 (4,
 .bool
 (nilOf
 (evS
 (putS [.dat d,SV.undef,.nils,SV.undef,SV.undef,SV.undef,SV.undef,SV.undef] (some 3)
 (evS [.dat d,SV.undef,.nils,SV.undef,SV.undef,SV.undef,SV.undef,SV.undef]
 (Operand.tmp 0)))
 (Operand.tmp 3))
 d)),
 (5,.vec 1005),(6,.dat d),(7,.vec 1007)]
 0 8))
 []
 [(1007,
 OBlk.arr 3
 (D.slc (D.hd (hs_1 0 0)) 1 (List.append (D.rows (D.slc (D.hd (hs 0 0)) 1 [])) (D.rows d))))]))) := by kernel_rfl
theorem cl2_in : execT Try.prog [] (fun _=>false) 19 (entry Try.prog 93 [.dat d]) =
 Tree.br
 (nilOf
 (evS
 (putS [.dat d,SV.undef,.nils,SV.undef,SV.undef,SV.undef,SV.undef,SV.undef] (some 3)
 (evS [.dat d,SV.undef,.nils,SV.undef,SV.undef,SV.undef,SV.undef,SV.undef] (Operand.tmp 0)))
 (Operand.tmp 3))
 d)
 (.ret .nils)
 (.all fun hs =>
 .need
 (D.sz (D.slc (D.hd (hs 0 0)) 8 []) = 8 ∧
 D.Fits d 8 ∧
 (D.len (D.slc (D.hd (hs 0 0)) 8 []) + D.len d) * 8 ≤ 140737488355328 ∧
 D.len (D.slc (D.hd (hs 0 0)) 8 []) + D.len d ≤ 9223372036854775807)
 (.all fun hs_1 =>
 .leaf
 (Conf.mk
 (SFrm.mk 93 none none [Item.code (cA 93 [1,0,1,0,1])]
 (mkU
 [(0,.dat d),(2,.vec 1007),(3,.dat d),
 (4,
 .bool
 (nilOf
 (evS
 (putS [.dat d,SV.undef,.nils,SV.undef,SV.undef,SV.undef,SV.undef,SV.undef] (some 3)
 (evS [.dat d,SV.undef,.nils,SV.undef,SV.undef,SV.undef,SV.undef,SV.undef]
 (Operand.tmp 0)))
 (Operand.tmp 3))
 d)),
 (5,.vec 1005),(6,.dat d),(7,.vec 1007)]
 0 8))
 []
 [(1007,
 OBlk.arr 151
 (D.slc (D.hd (hs_1 0 0)) 8 (List.append (D.rows (D.slc (D.hd (hs 0 0)) 8 [])) (D.rows d))))]))) := by kernel_rfl
theorem cl3_in : execT Try.prog [] (fun _=>false) 19 (entry Try.prog 98 [.dat d]) =
 Tree.br
 (nilOf
 (evS
 (putS [.dat d,SV.undef,.nils,SV.undef,SV.undef,SV.undef,SV.undef,SV.undef] (some 3)
 (evS [.dat d,SV.undef,.nils,SV.undef,SV.undef,SV.undef,SV.undef,SV.undef] (Operand.tmp 0)))
 (Operand.tmp 3))
 d)
 (.ret .nils)
 (.all fun hs =>
 .need
 (D.sz (D.slc (D.hd (hs 0 0)) 2 []) = 2 ∧
 D.Fits d 2 ∧
 (D.len (D.slc (D.hd (hs 0 0)) 2 []) + D.len d) * 16 ≤ 140737488355328 ∧
 D.len (D.slc (D.hd (hs 0 0)) 2 []) + D.len d ≤ 9223372036854775807)
 (.all fun hs_1 =>
 .leaf
 (Conf.mk
 (SFrm.mk 98 none none [Item.code (cA 98 [1,0,1,0,1])]
 (mkU
 [(0,.dat d),(2,.vec 1007),(3,.dat d),
 (4,
 .bool
 (nilOf
 (evS
 (putS [.dat d,SV.undef,.nils,SV.undef,SV.undef,SV.undef,SV.undef,SV.undef] (some 3)
 (evS [.dat d,SV.undef,.nils,SV.undef,SV.undef,SV.undef,SV.undef,SV.undef]
 (Operand.tmp 0)))
 (Operand.tmp 3))
 d)),
 (5,.vec 1005),(6,.dat d),(7,.vec 1007)]
 0 8))
 []
 [(1007,
 OBlk.arr 79
 (D.slc (D.hd (hs_1 0 0)) 2 (List.append (D.rows (D.slc (D.hd (hs 0 0)) 2 [])) (D.rows d))))]))) := by kernel_rfl
theorem cop_in : exec Try.prog ctK 400 (entry Try.prog 92 [.agg [.dat ha,.dat hb,.dat hc]]) =
 Tree.all fun hs =>
 .need (D.Is Int ha ∧ D.len ha ≤ 1048576)
 (.need (D.Is Ev hc ∧ D.len hc ≤ 1048576)
 (.leaf
 (Conf.mk
 (SFrm.mk 92 none none
 [Item.inLoop (cA 92 [1,1,0,1,0,0]),Item.inBlock 0,Item.code (cA 92 [1,1,1])]
 (mkJ 0
 [(2,.ptr 0 0),(3,.ptr 1 0),(14,.dat hb),(15,.int .i64 (↑(D.len hb) : Int)),
 (16,.int .i64 0)]
 0 32))
 []
 [(0,OBlk.cells 73 [.nils,.nils,.nils]),(1,OBlk.cells 73 [.vec 2,.nils,.vec 3]),
 (2,OBlk.arr 3 (D.slc (D.hd (hs 2 0)) 1 (D.rows ha))),
 (3,OBlk.arr 79 (D.slc (D.hd (hs 5 0)) 2 (D.rows hc)))]))) := by kernel_rfl
end
def cpL (hb p q r : D) (j : Int) : Conf := Conf.mk (SFrm.mk 92 none none [Item.inLoop (cA 92 [1,1,0,1,0,0]),Item.inBlock 0,Item.code (cA 92 [1,1,1])]
 (mkJ 0 [(2,.ptr 0 0),(3,.ptr 1 0),(14,.dat hb),(15,.int .i64 hb.len),(16,.int .i64 j)] 0 32)) [] [(0,.cells 73 [.nils,.nils,.nils]),(1,.cells 73 [.vec 2,.vec 3,.vec 4]),(2,.arr 3 p),(3,.arr 154 q),(4,.arr 79 r)]
section
variable (j : Int) (ha hb hc p q r : D)
theorem cpL_go : exec Try.prog ctK 400 (unroll (cpL hb p q r j)) =
 Tree.br (decide (j < (↑(D.len hb) : Int)))
 (.need (0 ≤ j ∧ j < (↑(D.len hb) : Int) ∧ D.sz hb = 3)
 (.need (D.HasCells hb (Int.toNat j) 0 [FT.int .i64,FT.int .i64,FT.slc])
 (.need (D.Is Sec (D.cell hb (Int.toNat j) 2) ∧ D.len (D.cell hb (Int.toNat j) 2) ≤ 1048576)
 (.all fun hs =>
 .all fun hs_1 =>
 .need
 (D.sz q = 3 ∧
 D.Fits
 (D.slc (D.hd (hs_1 0 0)) 3
 [[D.int .i64 (D.getInt hb (Int.toNat j) 0),
 D.int .i64 (D.getInt hb (Int.toNat j) 1),
 D.slc (D.hd (hs 0 0)) 8 (D.rows (D.cell hb (Int.toNat j) 2))]])
 3 ∧
 (D.len q +
 D.len
 (D.slc (D.hd (hs_1 0 0)) 3
 [[D.int .i64 (D.getInt hb (Int.toNat j) 0),
 D.int .i64 (D.getInt hb (Int.toNat j) 1),
 D.slc (D.hd (hs 0 0)) 8 (D.rows (D.cell hb (Int.toNat j) 2))]])) *
 40 ≤
 140737488355328 ∧
 D.len q +
 D.len
 (D.slc (D.hd (hs_1 0 0)) 3
 [[D.int .i64 (D.getInt hb (Int.toNat j) 0),
 D.int .i64 (D.getInt hb (Int.toNat j) 1),
 D.slc (D.hd (hs 0 0)) 8 (D.rows (D.cell hb (Int.toNat j) 2))]]) ≤
 9223372036854775807)
 (.all fun hs_2 =>
 .leaf
 (Conf.mk
 (SFrm.mk 92 none none
 [Item.inLoop (cA 92 [1,1,0,1,0,0]),Item.inBlock 0,
 Item.code (cA 92 [1,1,1])]
 (mkJ 0
 [(2,.ptr 0 0),(3,.ptr 1 0),(14,.dat hb),
 (15,.int .i64 (↑(D.len hb) : Int)),
 (16,.int .i64 (IntKind.wrap .i64 (j + 1)))]
 0 32))
 []
 [(0,OBlk.cells 73 [.nils,.nils,.nils]),(1,OBlk.cells 73 [.vec 2,.vec 3,.vec 4]),
 (2,OBlk.arr 3 p),
 (3,
 OBlk.arr 154
 (D.slc (D.hd (hs_2 0 0)) 3
 (List.append (D.rows q)
 (D.rows
 (D.slc (D.hd (hs_1 0 0)) 3
 [[D.int .i64 (D.getInt hb (Int.toNat j) 0),
 D.int .i64 (D.getInt hb (Int.toNat j) 1),
 D.slc (D.hd (hs 0 0)) 8 (D.rows (D.cell hb (Int.toNat j) 2))]]))))),
 (4,OBlk.arr 79 r)]))))))
 (.ret (.agg [.dat p,.dat q,.dat r])) := by kernel_rfl
end
theorem lawCl1 : OLaw Try.prog 54 (spClone Int 3) := by
 refine olaw_clone (by kernel_rfl) fun H w d hok hd hlen=>?_
 apply execT_sound (noCtr _) (fun _=>false) 19
 rw [cl1_in]
 refine ⟨fun hc=>?_,fun hc hs=>⟨⟨rfl,hd.fits,by simp only [len_slc,List.length_nil]; omega,by simp only [len_slc,List.length_nil]; omega⟩,fun hs1=>?_⟩⟩
 ·have hc : d.isNil = true := hc
  have := nil_rows hok hc
  exact own_nil (h := .slc none 1 []) (by rw [this]; rfl)
 ·exact own_ret (f := Try.f54) (j := 1007) (h := hs1 0 0) (by kernel_rfl) (by kernel_rfl) rfl rfl
theorem lawCl2 : OLaw Try.prog 93 (spClone Sec 151) := by
 refine olaw_clone (by kernel_rfl) fun H w d hok hd hlen=>?_
 apply execT_sound (noCtr _) (fun _=>false) 19
 rw [cl2_in]
 refine ⟨fun hc=>?_,fun hc hs=>⟨⟨rfl,hd.fits,by simp only [len_slc,List.length_nil]; omega,by simp only [len_slc,List.length_nil]; omega⟩,fun hs1=>?_⟩⟩
 ·have hc : d.isNil = true := hc
  have := nil_rows hok hc
  exact own_nil (h := .slc none 8 []) (by rw [this]; rfl)
 ·exact own_ret (f := Try.f93) (j := 1007) (h := hs1 0 0) (by kernel_rfl) (by kernel_rfl) rfl rfl
theorem lawCl3 : OLaw Try.prog 98 (spClone Ev 79) := by
 refine olaw_clone (by kernel_rfl) fun H w d hok hd hlen=>?_
 apply execT_sound (noCtr _) (fun _=>false) 19
 rw [cl3_in]
 refine ⟨fun hc=>?_,fun hc hs=>⟨⟨rfl,hd.fits,by simp only [len_slc,List.length_nil]; omega,by simp only [len_slc,List.length_nil]; omega⟩,fun hs1=>?_⟩⟩
 ·have hc : d.isNil = true := hc
  have := nil_rows hok hc
  exact own_nil (h := .slc none 2 []) (by rw [this]; rfl)
 ·exact own_ret (f := Try.f98) (j := 1007) (h := hs1 0 0) (by kernel_rfl) (by kernel_rfl) rfl rfl
theorem ctKOk : Ctrs.Ok Try.prog ctK := by
 intro x hx
 simp only [ctK,List.mem_cons,List.not_mem_nil,or_false] at hx
 rcases hx with rfl | rfl | rfl
 ·exact oCtr_ok lawCl1
 ·exact oCtr_ok lawCl2
 ·exact oCtr_ok lawCl3
theorem lawCopied : Law Try.prog 92 (rdHi.one.sp spCopy) := by
 refine law_in _ (by kernel_rfl) fun H w ⟨ha,hb,hc⟩ hok hp=>?_
 have hR : (HiD.mk ha hb hc).Right := hp _ (List.mem_singleton.2 rfl)
 obtain ⟨ra,rb,rc,la,lb,lc,rd⟩ := id hR
 simp only at ra rb rc la lb lc rd
 have bl := D.Is.length (α := Wt) hb
 apply exec_sound ctKOk 400
 rw [show rdHi.one.canon ⟨ha,hb,hc⟩ = [.agg [.dat ha,.dat hb,.dat hc]] from rfl,cop_in]
 refine fun hs=>⟨⟨ra,la⟩,⟨rc,lc⟩,?_⟩
 obtain ⟨p1,p2⟩ := slc_same ra (D.hd (hs 2 0)) (s := 1) rfl
 obtain ⟨r1,r2⟩ := slc_same rc (D.hd (hs 5 0)) (s := 2) rfl
 refine vecIn_to 9 154 3 (some 1) 1 (cpL hb (D.slc (D.hd (hs 2 0)) 1 (D.rows ha)) (.slc none 3 []) (D.slc (D.hd (hs 5 0)) 2 (D.rows hc)) 0) (by kernel_rfl) ?_
 generalize D.slc (D.hd (hs 2 0)) 1 (D.rows ha) = p at p1 p2
 generalize D.slc (D.hd (hs 5 0)) 2 (D.rows hc) = r at r1 r2
 refine runs_loop (fun q : D × Nat=>cpL hb p q.1 r q.2) (fun q=>q.2 ≤ (hb.to Wt).length ∧ q.1.Is Wt ∧ q.1.sz = 3 ∧ q.1.to Wt = (hb.to Wt).take q.2) (fun q=>(hb.to Wt).length - q.2) (fun _=>rfl) ?_ (.slc none 3 [],0) ⟨Nat.zero_le _,is_nil _ _,rfl,rfl⟩
 intro ⟨q,j⟩ ⟨hj,hq,hz,hto⟩ ih
 simp only at hj hq hz hto
 have ql := D.Is.length (α := Wt) q
 rw [hto,List.length_take] at ql
 show Runs Try.prog ⟨w,H⟩ (unroll (cpL hb p q r j)) _
 apply exec_sound ctKOk 400
 rw [cpL_go]
 refine ⟨fun hcj=>?_,fun hcj=>?_⟩
 ·have hcj : j < (hb.to Wt).length := by have := of_decide_eq_true hcj; omega
  obtain ⟨c1,c2,c3⟩ := wt_cell rb hcj
  have hwd := rd _ (List.getElem_mem hcj)
  rw [c3] at hwd
  refine ⟨⟨by omega,by omega,rb.size hcj⟩,c1,⟨c2,by rw [D.Is.length (α := Sec)]; exact hwd⟩,fun hs1 hs2=>⟨⟨hz,.inr rfl,by simp only [len_slc,List.length_cons,List.length_nil]; omega,by simp only [len_slc,List.length_cons,List.length_nil]; omega⟩,fun hs3=>?_⟩⟩
  obtain ⟨x1,x2⟩ := slc_same c2 (D.hd (hs1 0 0)) (s := 8) rfl
  have hr := rows_app (rows_of hq) (wt_one (hb.getInt j 0) (hb.getInt j 1) x1)
  obtain ⟨i1,i2⟩ := is_of (h := D.hd (hs3 0 0)) (s := 3) rfl hr
  have := ih (_,j + 1) ⟨hcj,i1,rfl,i2.trans (by rw [hto,List.take_succ_eq_append_getElem hcj,c3,x2])⟩ (by simp only; omega)
  simp only at this
  rw [← wrap_succ hcj (by omega)] at this
  exact this
 ·have : j = (hb.to Wt).length := by have := of_decide_eq_false hcj; omega
  subst this
  rw [List.take_length] at hto
  exact ret_hi (stands_dat p1 p2) (stands_dat hq hto) (stands_dat r1 r2) rfl
section
variable (n j k w : Int) (d e a b i o ha hb hc ga gb gc : D) (v s : Int)
end
section
variable (n j k w : Int) (d e a b i o ha hb hc ga gb gc : D) (v s : Int)
end
def isF (n : Int) : SFrm := SFrm.mk 85 (some (oA 85 [1,1,1,1,1,1,0],[2,3])) (some 45) [Item.code (cA 85 [1,1,1,1,1,1,1])] (mkJ 0 [(3,.ptr 0 0),(4,.ptr 1 0),(12,.int .i64 n)] 0 65)
def akF (n : Int) : SFrm := SFrm.mk 86 (some (oA 86 [1,1,1,0],[2,3])) (some 40) [Item.code (cA 86 [1,1,1,1])] (mkJ 0 [(1,.int .i64 n),(4,.ptr 0 0)] 0 49)
def isE (ha hb hc : D) (v s : Int) (e : D) : Conf := Conf.mk (SFrm.mk 92 none none [Item.code (cA 92 [0]),Item.code (cA 92 [1])] (mkJ 1 [(0,.agg [.dat ha,.dat hb,.dat hc])] 0 32)) [isF hb.len]
 [(0,.cells 154 [.int .i64 v,.int .i64 s,.dat e]),(1,.cells 73 [.nils,.nils,.nils])]
def akE (ha hb hc : D) (n : Int) : Conf := Conf.mk (SFrm.mk 92 none none [Item.code (cA 92 [0]),Item.code (cA 92 [1])] (mkJ 1 [(0,.agg [.dat ha,.dat hb,.dat hc])] 0 32)) [akF n]
 [(0,.cells 73 [.nils,.nils,.nils])]
section
variable (n j k w : Int) (d e a b i o ha hb hc ga gb gc : D) (v s : Int)
theorem isE_in : exec Try.prog ctK 400 (isE ha hb hc v s e) =
 Tree.all fun hs =>
 .need (D.Is Int ha ∧ D.len ha ≤ 1048576)
 (.need (D.Is Ev hc ∧ D.len hc ≤ 1048576)
 (.leaf
 (Conf.mk
 (SFrm.mk 92 none none
 [Item.inLoop (cA 92 [1,1,0,1,0,0]),Item.inBlock 0,Item.code (cA 92 [1,1,1])]
 (mkJ 1
 [(2,.ptr 0 0),(3,.ptr 1 0),(14,.dat hb),(15,.int .i64 (↑(D.len hb) : Int)),
 (16,.int .i64 0)]
 0 32))
 [SFrm.mk 85 (some (oA 85 [1,1,1,1,1,1,0],[2,3])) (some 45)
 [Item.code (cA 85 [1,1,1,1,1,1,1])]
 (mkJ 0 [(3,.ptr 2 0),(4,.ptr 3 0),(12,.int .i64 (↑(D.len hb) : Int))] 0 65)]
 [(0,OBlk.cells 73 [.nils,.nils,.nils]),(1,OBlk.cells 73 [.vec 4,.nils,.vec 5]),
 (2,OBlk.cells 154 [.int .i64 v,.int .i64 s,.dat e]),
 (3,OBlk.cells 73 [.nils,.nils,.nils]),(4,OBlk.arr 3 (D.slc (D.hd (hs 2 0)) 1 (D.rows ha))),
 (5,OBlk.arr 79 (D.slc (D.hd (hs 5 0)) 2 (D.rows hc)))]))) := by kernel_rfl
theorem akE_in : exec Try.prog ctK 400 (akE ha hb hc n) =
 Tree.all fun hs =>
 .need (D.Is Int ha ∧ D.len ha ≤ 1048576)
 (.need (D.Is Ev hc ∧ D.len hc ≤ 1048576)
 (.leaf
 (Conf.mk
 (SFrm.mk 92 none none
 [Item.inLoop (cA 92 [1,1,0,1,0,0]),Item.inBlock 0,Item.code (cA 92 [1,1,1])]
 (mkJ 1
 [(2,.ptr 0 0),(3,.ptr 1 0),(14,.dat hb),(15,.int .i64 (↑(D.len hb) : Int)),
 (16,.int .i64 0)]
 0 32))
 [SFrm.mk 86 (some (oA 86 [1,1,1,0],[2,3])) (some 40)
 [Item.code (cA 86 [1,1,1,1])] (mkJ 0 [(1,.int .i64 n),(4,.ptr 2 0)] 0 49)]
 [(0,OBlk.cells 73 [.nils,.nils,.nils]),(1,OBlk.cells 73 [.vec 3,.nils,.vec 4]),
 (2,OBlk.cells 73 [.nils,.nils,.nils]),(3,OBlk.arr 3 (D.slc (D.hd (hs 2 0)) 1 (D.rows ha))),
 (4,OBlk.arr 79 (D.slc (D.hd (hs 5 0)) 2 (D.rows hc)))]))) := by kernel_rfl
end
def cpT (hb : D) (j : Int) : SFrm := SFrm.mk 92 none none [Item.inLoop (cA 92 [1,1,0,1,0,0]),Item.inBlock 0,Item.code (cA 92 [1,1,1])] (mkJ 1 [(2,.ptr 0 0),(3,.ptr 1 0),(14,.dat hb),(15,.int .i64 hb.len),(16,.int .i64 j)] 0 32)
def isL (hb p q r : D) (v s : Int) (e : D) (j : Int) : Conf := Conf.mk (cpT hb j) [SFrm.mk 85 (some (oA 85 [1,1,1,1,1,1,0],[2,3])) (some 45) [Item.code (cA 85 [1,1,1,1,1,1,1])] (mkJ 0 [(3,.ptr 2 0),(4,.ptr 3 0),(12,.int .i64 hb.len)] 0 65)]
 [(0,.cells 73 [.nils,.nils,.nils]),(1,.cells 73 [.vec 4,.vec 5,.vec 6]),(2,.cells 154 [.int .i64 v,.int .i64 s,.dat e]),(3,.cells 73 [.nils,.nils,.nils]),(4,.arr 3 p),(5,.arr 154 q),(6,.arr 79 r)]
def akL (hb p q r : D) (n : Int) (j : Int) : Conf := Conf.mk (cpT hb j) [SFrm.mk 86 (some (oA 86 [1,1,1,0],[2,3])) (some 40) [Item.code (cA 86 [1,1,1,1])] (mkJ 0 [(1,.int .i64 n),(4,.ptr 2 0)] 0 49)]
 [(0,.cells 73 [.nils,.nils,.nils]),(1,.cells 73 [.vec 3,.vec 4,.vec 5]),(2,.cells 73 [.nils,.nils,.nils]),(3,.arr 3 p),(4,.arr 154 q),(5,.arr 79 r)]
section
variable (n j k w : Int) (d e a b i o ha hb hc ga gb gc p q r : D) (v s : Int)
theorem isL_go : 
 let z1 := (D.cell hb (Int.toNat j) 2)
 let z2 := (D.getInt hb (Int.toNat j) 1)
 let z3 := (D.getInt hb (Int.toNat j) 0)
 exec Try.prog ctK 500 (unroll (isL hb p q r v s e j)) =
 Tree.br (decide (j < (↑(D.len hb) : Int))) (.need (0 ≤ j ∧ j < (↑(D.len hb) : Int) ∧ D.sz hb = 3) (.need (D.HasCells hb (Int.toNat j) 0 [FT.int .i64,FT.int .i64,FT.slc]) (.need (D.Is Sec z1 ∧ D.len z1 ≤ 1048576)
 (.all fun hs=>.all fun hs_1=>.need (D.sz q = 3 ∧ D.Fits (D.slc (D.hd (hs_1 0 0)) 3 [[D.int .i64 z3,D.int .i64 z2,D.slc (D.hd (hs 0 0)) 8 (D.rows z1)]]) 3 ∧ (D.len q + D.len (D.slc (D.hd (hs_1 0 0)) 3 [[D.int .i64 z3,D.int .i64 z2,D.slc
 (D.hd (hs 0 0)) 8 (D.rows z1)]])) * 40 ≤ 140737488355328 ∧ D.len q + D.len (D.slc (D.hd (hs_1 0 0)) 3 [[D.int .i64 z3,D.int .i64 z2,D.slc (D.hd (hs 0 0)) 8 (D.rows z1)]]) ≤ 9223372036854775807) (.all fun hs_2=>.leaf
 (Conf.mk (SFrm.mk 92 none none [Item.inLoop (cA 92 [1,1,0,1,0,0]),Item.inBlock 0,Item.code (cA 92 [1,1,1])] (mkJ 1 [(2,.ptr 0 0),(3,.ptr 1 0),(14,.dat hb),(15,.int .i64 (↑(D.len hb) : Int)),
 (16,.int .i64 (IntKind.wrap .i64 (j + 1)))] 0 32)) [SFrm.mk 85 (some (oA 85 [1,1,1,1,1,1,0],[2,3])) (some 45) [Item.code (cA 85 [1,1,1,1,1,1,1])] (mkJ 0 [(3,.ptr 2 0),(4,.ptr 3 0),(12,.int .i64
 (↑(D.len hb) : Int))] 0 65)] [(0,OBlk.cells 73 [.nils,.nils,.nils]),(1,OBlk.cells 73 [.vec 4,.vec 5,.vec 6]),(2,OBlk.cells 154 [.int .i64 v,.int .i64 s,.dat e]),(3,OBlk.cells 73 [.nils,.nils,.nils]),
 (4,OBlk.arr 3 p),(5,OBlk.arr 154 (D.slc (D.hd (hs_2 0 0)) 3 (List.append (D.rows q) (D.rows (D.slc (D.hd (hs_1 0 0)) 3 [[D.int .i64 z3,D.int .i64 z2,D.slc (D.hd (hs 0 0)) 8 (D.rows z1)]]))))),(6,OBlk.arr 79 r)]))))))
 (.need (D.Is Sec e ∧ D.len e ≤ 1048576) (.all fun hs=>.all fun hs_1=>.need (D.sz q = 3 ∧ D.Fits (D.slc (D.hd (hs_1 0 0)) 3 [[D.int .i64 v,D.int .i64 s,D.slc (D.hd (hs 0 0)) 8 (D.rows e)]]) 3 ∧ (D.len q + D.len
 (D.slc (D.hd (hs_1 0 0)) 3 [[D.int .i64 v,D.int .i64 s,D.slc (D.hd (hs 0 0)) 8 (D.rows e)]])) * 40 ≤ 140737488355328 ∧ D.len q + D.len (D.slc (D.hd (hs_1 0 0)) 3 [[D.int .i64 v,D.int .i64 s,D.slc (D.hd
 (hs 0 0)) 8 (D.rows e)]]) ≤ 9223372036854775807) (.all fun hs_2=>.all fun hs_3=>.need (D.sz r = 2 ∧ D.Fits (D.slc (D.hd (hs_3 0 0)) 2 [[D.int .i64 0,D.int .i64 (↑(D.len hb) : Int)]]) 2 ∧ (D.len r + D.len
 (D.slc (D.hd (hs_3 0 0)) 2 [[D.int .i64 0,D.int .i64 (↑(D.len hb) : Int)]])) * 16 ≤ 140737488355328 ∧ D.len r + D.len (D.slc (D.hd (hs_3 0 0)) 2 [[D.int .i64 0,D.int .i64 (↑(D.len hb) : Int)]]) ≤ 9223372036854775807)
 (.all fun hs_4=>.ret (SV.tup [.agg [.dat p,.dat (D.slc (D.hd (hs_2 0 0)) 3 (List.append (D.rows q) (D.rows (D.slc (D.hd (hs_1 0 0)) 3 [[D.int .i64 v,D.int .i64 s,D.slc (D.hd (hs 0 0)) 8 (D.rows e)]])))),.dat
 (D.slc (D.hd (hs_4 0 0)) 2 (List.append (D.rows r) (D.rows (D.slc (D.hd (hs_3 0 0)) 2 [[D.int .i64 0,D.int .i64 (↑(D.len hb) : Int)]]))))],.int .i64 (↑(D.len hb) : Int),.int .i64 0]))))) := by
 intros; kernel_rfl
theorem akL_go : exec Try.prog ctK 500 (unroll (akL hb p q r n j)) =
 Tree.br (decide (j < (↑(D.len hb) : Int)))
 (.need (0 ≤ j ∧ j < (↑(D.len hb) : Int) ∧ D.sz hb = 3)
 (.need (D.HasCells hb (Int.toNat j) 0 [FT.int .i64,FT.int .i64,FT.slc])
 (.need (D.Is Sec (D.cell hb (Int.toNat j) 2) ∧ D.len (D.cell hb (Int.toNat j) 2) ≤ 1048576)
 (.all fun hs =>
 .all fun hs_1 =>
 .need
 (D.sz q = 3 ∧
 D.Fits
 (D.slc (D.hd (hs_1 0 0)) 3
 [[D.int .i64 (D.getInt hb (Int.toNat j) 0),
 D.int .i64 (D.getInt hb (Int.toNat j) 1),
 D.slc (D.hd (hs 0 0)) 8 (D.rows (D.cell hb (Int.toNat j) 2))]])
 3 ∧
 (D.len q +
 D.len
 (D.slc (D.hd (hs_1 0 0)) 3
 [[D.int .i64 (D.getInt hb (Int.toNat j) 0),
 D.int .i64 (D.getInt hb (Int.toNat j) 1),
 D.slc (D.hd (hs 0 0)) 8 (D.rows (D.cell hb (Int.toNat j) 2))]])) *
 40 ≤
 140737488355328 ∧
 D.len q +
 D.len
 (D.slc (D.hd (hs_1 0 0)) 3
 [[D.int .i64 (D.getInt hb (Int.toNat j) 0),
 D.int .i64 (D.getInt hb (Int.toNat j) 1),
 D.slc (D.hd (hs 0 0)) 8 (D.rows (D.cell hb (Int.toNat j) 2))]]) ≤
 9223372036854775807)
 (.all fun hs_2 =>
 .leaf
 (Conf.mk
 (SFrm.mk 92 none none
 [Item.inLoop (cA 92 [1,1,0,1,0,0]),Item.inBlock 0,
 Item.code (cA 92 [1,1,1])]
 (mkJ 1
 [(2,.ptr 0 0),(3,.ptr 1 0),(14,.dat hb),
 (15,.int .i64 (↑(D.len hb) : Int)),
 (16,.int .i64 (IntKind.wrap .i64 (j + 1)))]
 0 32))
 [SFrm.mk 86 (some (oA 86 [1,1,1,0],[2,3])) (some 40)
 [Item.code (cA 86 [1,1,1,1])]
 (mkJ 0 [(1,.int .i64 n),(4,.ptr 2 0)] 0 49)]
 [(0,OBlk.cells 73 [.nils,.nils,.nils]),(1,OBlk.cells 73 [.vec 3,.vec 4,.vec 5]),
 (2,OBlk.cells 73 [.nils,.nils,.nils]),(3,OBlk.arr 3 p),
 (4,
 OBlk.arr 154
 (D.slc (D.hd (hs_2 0 0)) 3
 (List.append (D.rows q)
 (D.rows
 (D.slc (D.hd (hs_1 0 0)) 3
 [[D.int .i64 (D.getInt hb (Int.toNat j) 0),
 D.int .i64 (D.getInt hb (Int.toNat j) 1),
 D.slc (D.hd (hs 0 0)) 8 (D.rows (D.cell hb (Int.toNat j) 2))]]))))),
 (5,OBlk.arr 79 r)]))))))
 (.all fun hs =>
 .need
 (D.sz r = 2 ∧
 D.Fits (D.slc (D.hd (hs 0 0)) 2 [[D.int .i64 1,D.int .i64 n]]) 2 ∧
 (D.len r + D.len (D.slc (D.hd (hs 0 0)) 2 [[D.int .i64 1,D.int .i64 n]])) * 16 ≤
 140737488355328 ∧
 D.len r + D.len (D.slc (D.hd (hs 0 0)) 2 [[D.int .i64 1,D.int .i64 n]]) ≤
 9223372036854775807)
 (.all fun hs_1 =>
 .ret
 (SV.tup
 [.agg
 [.dat p,.dat q,
 .dat
 (D.slc (D.hd (hs_1 0 0)) 2
 (List.append (D.rows r)
 (D.rows (D.slc (D.hd (hs 0 0)) 2 [[D.int .i64 1,D.int .i64 n]]))))],
 .int .i64 0]))) := by kernel_rfl
end
def ctMb : Ctrs := (90,ctrOf (rdHi.one.sp spCk)) :: (ctK ++ ctC1)
section
variable (n j k w : Int) (d e a b i o ha hb hc ga gb gc : D) (v s : Int)
theorem nwB_in : exec Try.prog ctMb 300 (entry Try.prog 67 [.dat d]) =
 Tree.need (D.Is Int d ∧ D.len d ≤ 1048576)
 (.all fun hs =>
 .br (sizesErr (D.to Int d) != 0)
 (.ret (SV.tup [.agg [.nils,.nils,.nils],.int .i64 (sizesErr (D.to Int d))]))
 (.need (D.Is Int d ∧ D.len d ≤ 1048576)
 (.all fun hs =>
 .ret
 (SV.tup [.agg [.dat (D.slc (D.hd (hs 0 0)) 1 (D.rows d)),.nils,.nils],.int .i64 0])))) := by kernel_rfl
theorem is2B_in : goS Try.prog ctMb (fun _=>false) [(92,1),(92,2),(92,3),(92,4),(92,5),(92,6)] 500 (entry Try.prog 85 [.agg [.dat ha,.dat hb,.dat hc],.agg [.int .i64 v,.int .i64 s,.dat e]]) =
 Tree.need (HiD.Right (HiD.mk ha hb hc))
 (.all fun hs =>
 .br (Prod.fst (checkH (HiD.hist (HiD.mk ha hb hc))) != 0)
 (.ret
 (SV.tup
 [.agg [.nils,.nils,.nils],.int .i64 0,
 .int .i64 (Prod.fst (checkH (HiD.hist (HiD.mk ha hb hc))))]))
 (.br (decide ((↑(D.len hb) : Int) ≥ 4096))
 (.ret (SV.tup [.agg [.nils,.nils,.nils],.int .i64 0,.int .i64 6]))
 (.need (D.Is Int ha ∧ D.len ha ≤ 1048576)
 (.all fun hs =>
 .need (ImgOk (D.like (hs 0 0) (imgOf (D.to Int ha))) ∧ WtD.Ok (WtD.mk v s e))
 (.br (fitsI (D.to Vol (D.like (hs 0 0) (imgOf (D.to Int ha)))) (WtD.wt (WtD.mk v s e)) != 0)
 (.ret
 (SV.tup
 [.agg [.nils,.nils,.nils],.int .i64 0,
 .int .i64
 (fitsI (D.to Vol (D.like (hs 0 0) (imgOf (D.to Int ha)))) (WtD.wt (WtD.mk v s e)))]))
 (.leaf
 (Conf.mk
 (SFrm.mk 92 none none [Item.code (cA 92 [0]),Item.code (cA 92 [1])]
 (mkJ 1 [(0,.agg [.dat ha,.dat hb,.dat hc])] 0 32))
 [SFrm.mk 85 (some (oA 85 [1,1,1,1,1,1,0],[2,3])) (some 45)
 [Item.code (cA 85 [1,1,1,1,1,1,1])]
 (mkJ 0 [(3,.ptr 0 0),(4,.ptr 1 0),(12,.int .i64 (↑(D.len hb) : Int))] 0 65)]
 [(0,OBlk.cells 154 [.int .i64 v,.int .i64 s,.dat e]),
 (1,OBlk.cells 73 [.nils,.nils,.nils])]))))))) := by kernel_rfl
theorem ak2B_in : goS Try.prog ctMb (fun _=>false) [(92,1),(92,2),(92,3),(92,4),(92,5),(92,6)] 500 (entry Try.prog 86 [.agg [.dat ha,.dat hb,.dat hc],.int .i64 n]) =
 Tree.need (HiD.Right (HiD.mk ha hb hc))
 (.all fun hs =>
 .br (Prod.fst (checkH (HiD.hist (HiD.mk ha hb hc))) != 0)
 (.ret
 (SV.tup
 [.agg [.nils,.nils,.nils],.int .i64 (Prod.fst (checkH (HiD.hist (HiD.mk ha hb hc))))]))
 (.br (decide (n < 0)) (.ret (SV.tup [.agg [.nils,.nils,.nils],.int .i64 7]))
 (.br (decide (n ≥ (↑(D.len hb) : Int)))
 (.ret (SV.tup [.agg [.nils,.nils,.nils],.int .i64 7]))
 (.need
 (0 ≤ n ∧
 n < (↑(D.len (D.like (hs 0 1) (Tl.acked (Prod.snd (checkH (HiD.hist (HiD.mk ha hb hc))))))) : Int) ∧
 D.sz (D.like (hs 0 1) (Tl.acked (Prod.snd (checkH (HiD.hist (HiD.mk ha hb hc)))))) = 1)
 (.need
 (D.HasCell (D.like (hs 0 1) (Tl.acked (Prod.snd (checkH (HiD.hist (HiD.mk ha hb hc)))))) (Int.toNat n) 0
 (FT.int .i64))
 (.br
 (decide
 (D.getInt (D.like (hs 0 1) (Tl.acked (Prod.snd (checkH (HiD.hist (HiD.mk ha hb hc)))))) (Int.toNat n)
 0 ≥
 0))
 (.ret (SV.tup [.agg [.nils,.nils,.nils],.int .i64 8]))
 (.leaf
 (Conf.mk
 (SFrm.mk 92 none none [Item.code (cA 92 [0]),Item.code (cA 92 [1])]
 (mkJ 1 [(0,.agg [.dat ha,.dat hb,.dat hc])] 0 32))
 [SFrm.mk 86 (some (oA 86 [1,1,1,0],[2,3])) (some 40)
 [Item.code (cA 86 [1,1,1,1])]
 (mkJ 0 [(1,.int .i64 n),(4,.ptr 0 0)] 0 49)]
 [(0,OBlk.cells 73 [.nils,.nils,.nils])])))))))) := by kernel_rfl
end
theorem isE_run {H : HV} {w : World} {ha hb hc e : D} {v s : Int} (hR : (HiD.mk ha hb hc).Right) (hb2 : hb.len ≤ 4096) (he : WtD.Ok ⟨v,s,e⟩) :
  Runs Try.prog ⟨w,H⟩ (isE ha hb hc v s e) (RetD w H fun ds=>.tup [hiSV ds ⟨ha.to Int,hb.to Wt ++ ([⟨v,s,e.to Sec⟩] : List Wt),hc.to Ev ++ ([⟨0,(hb.to Wt).length⟩] : List Ev)⟩,.int .i64 (hb.to Wt).length,.int .i64 0]) := by
 obtain ⟨ra,rb,rc,la,lb,lc,rd⟩ := id hR
 simp only at ra rb rc la lb lc rd
 have bl := D.Is.length (α := Wt) hb
 have el := D.Is.length (α := Ev) hc
 apply exec_sound ctKOk 400
 rw [isE_in]
 refine fun hs=>⟨⟨ra,la⟩,⟨rc,lc⟩,?_⟩
 obtain ⟨p1,p2⟩ := slc_same ra (D.hd (hs 2 0)) (s := 1) rfl
 obtain ⟨r1,r2⟩ := slc_same rc (D.hd (hs 5 0)) (s := 2) rfl
 refine vecIn_to 9 154 3 (some 1) 1 (isL hb (D.slc (D.hd (hs 2 0)) 1 (D.rows ha)) (.slc none 3 []) (D.slc (D.hd (hs 5 0)) 2 (D.rows hc)) v s e 0) (by kernel_rfl) ?_
 have rsz : (D.slc (D.hd (hs 5 0)) 2 (D.rows hc)).sz = 2 := rfl
 generalize D.slc (D.hd (hs 2 0)) 1 (D.rows ha) = p at p1 p2
 generalize D.slc (D.hd (hs 5 0)) 2 (D.rows hc) = r at r1 r2 rsz
 have rl := D.Is.length (α := Ev) r
 rw [r2] at rl
 refine runs_loop (fun q : D × Nat=>isL hb p q.1 r v s e q.2) (fun q=>q.2 ≤ (hb.to Wt).length ∧ q.1.Is Wt ∧ q.1.sz = 3 ∧ q.1.to Wt = (hb.to Wt).take q.2) (fun q=>(hb.to Wt).length - q.2) (fun _=>rfl) ?_ (.slc none 3 [],0) ⟨Nat.zero_le _,is_nil _ _,rfl,rfl⟩
 intro ⟨q,j⟩ ⟨hj,hq,hz,hto⟩ ih
 simp only at hj hq hz hto
 have ql := D.Is.length (α := Wt) q
 rw [hto,List.length_take] at ql
 show Runs Try.prog ⟨w,H⟩ (unroll (isL hb p q r v s e j)) _
 apply exec_sound ctKOk 500
 rw [isL_go]
 refine ⟨fun hcj=>?_,fun hcj=>?_⟩
 ·have hcj : j < (hb.to Wt).length := by have := of_decide_eq_true hcj; omega
  obtain ⟨c1,c2,c3⟩ := wt_cell rb hcj
  have hwd := rd _ (List.getElem_mem hcj)
  rw [c3] at hwd
  refine ⟨⟨by omega,by omega,rb.size hcj⟩,c1,⟨c2,by rw [D.Is.length (α := Sec)]; exact hwd⟩,fun hs1 hs2=>⟨⟨hz,.inr rfl,by simp only [len_slc,List.length_cons,List.length_nil]; omega,by simp only [len_slc,List.length_cons,List.length_nil]; omega⟩,fun hs3=>?_⟩⟩
  obtain ⟨x1,x2⟩ := slc_same c2 (D.hd (hs1 0 0)) (s := 8) rfl
  have hr := rows_app (rows_of hq) (wt_one (hb.getInt j 0) (hb.getInt j 1) x1)
  obtain ⟨i1,i2⟩ := is_of (h := D.hd (hs3 0 0)) (s := 3) rfl hr
  have := ih (_,j + 1) ⟨hcj,i1,rfl,i2.trans (by rw [hto,List.take_succ_eq_append_getElem hcj,c3,x2])⟩ (by simp only; omega)
  simp only at this
  rw [← wrap_succ hcj (by omega)] at this
  exact this
 ·have : j = (hb.to Wt).length := by have := of_decide_eq_false hcj; omega
  subst this
  rw [List.take_length] at hto
  refine ⟨he,fun hs1 hs2=>⟨⟨hz,.inr rfl,by simp only [len_slc,List.length_cons,List.length_nil]; omega,by simp only [len_slc,List.length_cons,List.length_nil]; omega⟩,fun hs3 hs4=>⟨⟨rsz,.inr rfl,by simp only [len_slc,List.length_cons,List.length_nil]; omega,by simp only [len_slc,List.length_cons,List.length_nil]; omega⟩,fun hs5=>?_⟩⟩⟩
  obtain ⟨x1,x2⟩ := slc_same he.1 (D.hd (hs1 0 0)) (s := 8) rfl
  obtain ⟨i1,i2⟩ := is_of (h := D.hd (hs3 0 0)) (s := 3) rfl (rows_app (rows_of hq) (wt_one v s x1))
  obtain ⟨k1,k2⟩ := is_of (h := D.hd (hs5 0 0)) (s := 2) rfl (rows_app (rows_of r1) (ev_one 0 (hb.len : Int)))
  rw [hto,x2] at i2
  rw [r2,bl] at k2
  rw [bl] at k1
  rw [bl]
  exact ret_hiII (stands_dat p1 p2) (stands_dat i1 i2) (stands_dat k1 k2) rfl rfl rfl
theorem akE_run {H : HV} {w : World} {ha hb hc : D} {n : Int} (hR : (HiD.mk ha hb hc).Right) (hce : hc.len ≤ 1000000) :
  Runs Try.prog ⟨w,H⟩ (akE ha hb hc n) (RetD w H fun ds=>.tup [hiSV ds ⟨ha.to Int,hb.to Wt,hc.to Ev ++ ([⟨1,n⟩] : List Ev)⟩,.int .i64 0]) := by
 obtain ⟨ra,rb,rc,la,lb,lc,rd⟩ := id hR
 simp only at ra rb rc la lb lc rd
 have bl := D.Is.length (α := Wt) hb
 have el := D.Is.length (α := Ev) hc
 apply exec_sound ctKOk 400
 rw [akE_in]
 refine fun hs=>⟨⟨ra,la⟩,⟨rc,lc⟩,?_⟩
 obtain ⟨p1,p2⟩ := slc_same ra (D.hd (hs 2 0)) (s := 1) rfl
 obtain ⟨r1,r2⟩ := slc_same rc (D.hd (hs 5 0)) (s := 2) rfl
 refine vecIn_to 9 154 3 (some 1) 1 (akL hb (D.slc (D.hd (hs 2 0)) 1 (D.rows ha)) (.slc none 3 []) (D.slc (D.hd (hs 5 0)) 2 (D.rows hc)) n 0) (by kernel_rfl) ?_
 have rsz : (D.slc (D.hd (hs 5 0)) 2 (D.rows hc)).sz = 2 := rfl
 generalize D.slc (D.hd (hs 2 0)) 1 (D.rows ha) = p at p1 p2
 generalize D.slc (D.hd (hs 5 0)) 2 (D.rows hc) = r at r1 r2 rsz
 have rl := D.Is.length (α := Ev) r
 rw [r2] at rl
 refine runs_loop (fun q : D × Nat=>akL hb p q.1 r n q.2) (fun q=>q.2 ≤ (hb.to Wt).length ∧ q.1.Is Wt ∧ q.1.sz = 3 ∧ q.1.to Wt = (hb.to Wt).take q.2) (fun q=>(hb.to Wt).length - q.2) (fun _=>rfl) ?_ (.slc none 3 [],0) ⟨Nat.zero_le _,is_nil _ _,rfl,rfl⟩
 intro ⟨q,j⟩ ⟨hj,hq,hz,hto⟩ ih
 simp only at hj hq hz hto
 have ql := D.Is.length (α := Wt) q
 rw [hto,List.length_take] at ql
 show Runs Try.prog ⟨w,H⟩ (unroll (akL hb p q r n j)) _
 apply exec_sound ctKOk 500
 rw [akL_go]
 refine ⟨fun hcj=>?_,fun hcj hs1=>?_⟩
 ·have hcj : j < (hb.to Wt).length := by have := of_decide_eq_true hcj; omega
  obtain ⟨c1,c2,c3⟩ := wt_cell rb hcj
  have hwd := rd _ (List.getElem_mem hcj)
  rw [c3] at hwd
  refine ⟨⟨by omega,by omega,rb.size hcj⟩,c1,⟨c2,by rw [D.Is.length (α := Sec)]; exact hwd⟩,fun hs1 hs2=>⟨⟨hz,.inr rfl,by simp only [len_slc,List.length_cons,List.length_nil]; omega,by simp only [len_slc,List.length_cons,List.length_nil]; omega⟩,fun hs3=>?_⟩⟩
  obtain ⟨x1,x2⟩ := slc_same c2 (D.hd (hs1 0 0)) (s := 8) rfl
  have hr := rows_app (rows_of hq) (wt_one (hb.getInt j 0) (hb.getInt j 1) x1)
  obtain ⟨i1,i2⟩ := is_of (h := D.hd (hs3 0 0)) (s := 3) rfl hr
  have := ih (_,j + 1) ⟨hcj,i1,rfl,i2.trans (by rw [hto,List.take_succ_eq_append_getElem hcj,c3,x2])⟩ (by simp only; omega)
  simp only at this
  rw [← wrap_succ hcj (by omega)] at this
  exact this
 ·have : j = (hb.to Wt).length := by have := of_decide_eq_false hcj; omega
  subst this
  rw [List.take_length] at hto
  refine ⟨⟨rsz,.inr rfl,by simp only [len_slc,List.length_cons,List.length_nil]; omega,by simp only [len_slc,List.length_cons,List.length_nil]; omega⟩,fun hs5=>?_⟩
  obtain ⟨k1,k2⟩ := is_of (h := D.hd (hs5 0 0)) (s := 2) rfl (rows_app (rows_of r1) (ev_one 1 n))
  rw [r2] at k2
  exact ret_hiI (stands_dat p1 p2) (stands_dat hq hto) (stands_dat k1 k2) rfl rfl
theorem ctMbOk : Ctrs.Ok Try.prog ctMb := by
 intro x hx
 simp only [ctMb,List.mem_cons,List.mem_append] at hx
 rcases hx with rfl | hx | hx
 ·exact ctrOf_ok lawCk
 ·exact ctKOk _ hx
 ·exact ctC1Ok _ hx
theorem lawNewHB : Law Try.prog 67 (rdD.one.sp spNewH) := by
 refine law_in _ (by kernel_rfl) fun H w d hok hp=>?_
 obtain ⟨hd,hlen⟩ := hp _ (List.mem_singleton.2 rfl)
 apply exec_sound ctMbOk 300
 rw [show rdD.one.canon d = [.dat d] from rfl,nwB_in]
 refine ⟨⟨hd,hlen⟩,fun hs=>⟨fun h=>?_,fun h=>⟨⟨hd,hlen⟩,fun hs1=>?_⟩⟩⟩
 ·have h : sizesErr (d.to Int) ≠ 0 := by simpa using h
  exact ret_hiI (s := []) (ws := []) (es := []) stands_nils stands_nils stands_nils (by unfold newH; rw [if_pos h]; rfl) (by unfold newH; rw [if_pos h])
 ·have h : ¬(sizesErr (d.to Int) ≠ 0) := by simpa using h
  obtain ⟨x1,x2⟩ := slc_same hd (D.hd (hs1 0 0)) (s := 1) rfl
  exact ret_hiI (stands_dat x1 x2) stands_nils stands_nils (by unfold newH; rw [if_neg h]) (by unfold newH; rw [if_neg h])
theorem lawIssueB : Law Try.prog 85 ((rdHi.two rdWt).sp spIssueH) := by
 refine law_in _ (by kernel_rfl) fun H w ⟨⟨ha,hb,hc⟩,⟨v,s,e⟩⟩ hok hp=>?_
 obtain ⟨hR,hce,he⟩ := hp _ (List.mem_singleton.2 rfl)
 have hR : (HiD.mk ha hb hc).Right := hR
 have he : WtD.Ok ⟨v,s,e⟩ := he
 obtain ⟨ra,rb,rc,la,lb,lc,rd⟩ := id hR
 simp only at ra rb rc la lb lc rd hce
 have al := D.Is.length (α := Int) ha
 have bl := D.Is.length (α := Wt) hb
 apply goS_sound ctMbOk
 rw [show (rdHi.two rdWt).canon (⟨ha,hb,hc⟩,⟨v,s,e⟩) = [.agg [.dat ha,.dat hb,.dat hc],.agg [.int .i64 v,.int .i64 s,.dat e]] from rfl,is2B_in]
 have ni : ∀ {k : Int},issueH (HiD.mk ha hb hc).hist (WtD.wt ⟨v,s,e⟩) = (zHist,0,k) → (Tree.ret (.tup [.agg [.nils,.nils,.nils],.int .i64 0,.int .i64 k])).holds Try.prog ⟨w,H⟩
   (RetD w H fun ds=>.tup [hiSV ds (issueH (HiD.mk ha hb hc).hist (WtD.wt ⟨v,s,e⟩)).1,.int .i64 (issueH (HiD.mk ha hb hc).hist (WtD.wt ⟨v,s,e⟩)).2.1,.int .i64 (issueH (HiD.mk ha hb hc).hist (WtD.wt ⟨v,s,e⟩)).2.2]) := fun h=>by
  rw [h]; exact ret_hiII (s := []) (ws := []) (es := []) stands_nils stands_nils stands_nils rfl rfl rfl
 refine ⟨hR,fun hs=>⟨fun h=>ni ?_,fun h=>⟨fun h2=>ni ?_,fun h2=>?_⟩⟩⟩
 ·exact issueH_e1 (by simpa using h)
 ·have h1 : ¬((checkH (HiD.mk ha hb hc).hist).1 ≠ 0) := by simpa using h
  have := of_decide_eq_true h2
  exact issueH_e2 h1 (by show (hb.to Wt).length ≥ 4096; omega)
 have h1 : ¬((checkH (HiD.mk ha hb hc).hist).1 ≠ 0) := by simpa using h
 have h2' : ¬(HiD.mk ha hb hc).hist.writes.length ≥ 4096 := by have := of_decide_eq_false h2; show ¬(hb.to Wt).length ≥ 4096; omega
 have h0 : sizesErr (ha.to Int) = 0 := (checkH_ok (h := (HiD.mk ha hb hc).hist) (by simpa using h1)).2.2.1
 refine ⟨⟨ra,la⟩,fun hs1=>?_⟩
 simp only
 have im : ImgOk ((hs1 0 0).like (imgOf (ha.to Int))) := img_ok h0 _
 rw [D.like_to,fitsI_img h0]
 refine ⟨⟨im,he⟩,fun h3=>ni ?_,fun h3=>?_⟩
 ·have h3' : fitsErr (ha.to Int) (WtD.wt ⟨v,s,e⟩) ≠ 0 := by simpa using h3
  exact issueH_e3 h1 h2' h3'
 ·have h3' : ¬(fitsErr (ha.to Int) (WtD.wt ⟨v,s,e⟩) ≠ 0) := by simpa using h3
  rw [issueH_ok h1 h2' h3']
  have h2l : hb.len ≤ 4096 := by have := of_decide_eq_false h2; omega
  exact isE_run hR h2l he
theorem lawAckB : Law Try.prog 86 ((rdHi.two rdInt).sp spAckH) := by
 refine law_in _ (by kernel_rfl) fun H w ⟨⟨ha,hb,hc⟩,n⟩ hok hp=>?_
 obtain ⟨hR,hce⟩ := hp _ (List.mem_singleton.2 rfl)
 have hR : (HiD.mk ha hb hc).Right := hR
 obtain ⟨ra,rb,rc,la,lb,lc,rd⟩ := id hR
 simp only at ra rb rc la lb lc rd hce
 have bl := D.Is.length (α := Wt) hb
 apply goS_sound ctMbOk
 rw [show (rdHi.two rdInt).canon (⟨ha,hb,hc⟩,n) = [.agg [.dat ha,.dat hb,.dat hc],.int .i64 n] from rfl,ak2B_in]
 have ni : ∀ {k : Int},ackH (HiD.mk ha hb hc).hist n = (zHist,k) → (Tree.ret (.tup [.agg [.nils,.nils,.nils],.int .i64 k])).holds Try.prog ⟨w,H⟩
   (RetD w H fun ds=>.tup [hiSV ds (ackH (HiD.mk ha hb hc).hist n).1,.int .i64 (ackH (HiD.mk ha hb hc).hist n).2]) := fun h=>by
  rw [h]; exact ret_hiI (s := []) (ws := []) (es := []) stands_nils stands_nils stands_nils rfl rfl
 have n7 : ¬((checkH (HiD.mk ha hb hc).hist).1 ≠ 0) → (n < 0 ∨ n ≥ ((hb.to Wt).length : Int)) → ackH (HiD.mk ha hb hc).hist n = (zHist,7) := fun h1 h2=>ackH_e7 h1 h2
 refine ⟨hR,fun hs=>⟨fun h=>ni ?_,fun h=>⟨fun h2=>ni (n7 (by simpa using h) (.inl (of_decide_eq_true h2))),fun h2=>⟨fun h3=>ni (n7 (by simpa using h) (.inr (by have := of_decide_eq_true h3; omega))),fun h3=>?_⟩⟩⟩⟩
 ·exact ackH_e1 (by simpa using h)
 have h1 : ¬((checkH (HiD.mk ha hb hc).hist).1 ≠ 0) := by simpa using h
 have h2' := of_decide_eq_false h2
 have h3' := of_decide_eq_false h3
 have hn : ¬(n < 0 ∨ n ≥ ((hb.to Wt).length : Int)) := by omega
 obtain ⟨hT,hTl,_⟩ := checkH_ok (h := (HiD.mk ha hb hc).hist) (by simpa using h1)
 obtain ⟨y,rfl⟩ := Int.eq_ofNat_of_zero_le (show 0 ≤ n by omega)
 have hTl : (checkH (HiD.mk ha hb hc).hist).2.issued.length = (hb.to Wt).length := hTl
 have hyl : y < (checkH (HiD.mk ha hb hc).hist).2.acked.length := by have := hT.len; omega
 have hli := D.like_is (hs 0 1) (checkH (HiD.mk ha hb hc).hist).2.acked
 have hlt := D.like_to (hs 0 1) (checkH (HiD.mk ha hb hc).hist).2.acked
 obtain ⟨d1,d2,d3⟩ := int_at hli (j := y) (by rw [hlt]; exact hyl)
 have hak : D.getInt ((hs 0 1).like (checkH (HiD.mk ha hb hc).hist).2.acked) (Int.toNat (y : Int)) 0 = atEv (hc.to Ev) ⟨1,y⟩ := by
  rw [d3]
  simp only [hlt]
  exact hT.ack y hyl
 rw [hak]
 refine ⟨d1,d2,fun h4=>ni ?_,fun h4=>?_⟩
 ·exact ackH_e8 h1 hn (of_decide_eq_true h4)
 ·rw [ackH_ok h1 hn (of_decide_eq_false h4)]
  exact akE_run hR hce
end Sv
end
noncomputable section
namespace Sx
open Go RowKit

mutual
theorem SV.ren_id : ∀ x : SV,x.ren id = x
 | .vec _=>rfl
 | .ptr ..=>rfl
 | .velt ..=>rfl
 | .view ..=>rfl
 | .mapp _=>rfl
 | .sl _ _=>rfl
 | .agg l=>by simp only [SV.ren,SV.renL_id l]
 | .tup l=>by simp only [SV.ren,SV.renL_id l]
 | .fn f a c=>by simp only [SV.ren,SV.renL_id a,SV.renL_id c]
 | .int ..=>rfl
 | .bool _=>rfl
 | .lb _=>rfl
 | .str _=>rfl
 | .nils=>rfl
 | .dat _=>rfl
 | .elt ..=>rfl
 | .nilp=>rfl
 | .nilf=>rfl
 | .undef=>rfl
 | .junk _=>rfl
 | .raw _=>rfl
theorem SV.renL_id : ∀ l : List SV,SV.renL id l = l
 | []=>rfl
 | x :: r=>by simp only [SV.renL,SV.ren_id x,SV.renL_id r]
end
theorem OBlk.ren_id : ∀ o : OBlk,o.ren id = o
 | .cells t cs=>by simp only [OBlk.ren,SV.renL_id]
 | .arr ..=>rfl
 | .pub _=>rfl
 | .mapD ..=>rfl
 | .map es=>by
  simp only [OBlk.ren,SV.ren_id]
  congr 1
  conv=>rhs; rw [← List.map_id es]
  rfl

theorem named_key {m : Mem} {k : Nat} {o : OBlk} (h : (k,o) ∈ m) : k ∈ m.named := List.mem_flatMap.2 ⟨_,h,List.mem_cons_self⟩
theorem named_in {m : Mem} {k j : Nat} {o : OBlk} (h : (k,o) ∈ m) (hj : j ∈ o.keys) : j ∈ m.named := List.mem_flatMap.2 ⟨_,h,List.mem_cons_of_mem _ hj⟩

theorem Good.envTo {C : Ctx} {m : Mem} {E E' : Env} {H : HV} {w : World} (g : Good C m E H w) (hj : E'.j = E.j) (h : ∀ k,k ∈ m.named → E'.b k = E.b k ∧ E'.v k = E.v k) (hp : ∀ f,C.x.pn = some f → ∀ k,PIN ≤ k → E'.b k = E.b k) : Good C m E' H w := by
 refine ⟨g.below,g.ext,g.fresh,g.cell,fun k o hko=>?_,g.keys,fun x y hx hy hne hlx hly=>?_,⟨g.fix.fx,g.fix.mark,g.fix.nodup,fun f hf k hk=>(hp f hf k hk).trans (g.fix.pin f hf k hk)⟩⟩
 ·have := OOk.ren (ρ := id) hj (g.own k o hko) (h k (named_key hko)) (fun j hj=>h j (named_in hko hj)) (fun es _ hk=>keysOk_ren hk)
  rw [OBlk.ren_id] at this
  exact this
 ·rw [(h x.1 (named_key (o := x.2) hx)).1,(h y.1 (named_key (o := y.2) hy)).1]
  exact g.apart x y hx hy hne hlx hly
theorem denL_envTo {E E' : Env} (hj : E'.j = E.j) {l : List SV} (h : ∀ k,k ∈ SV.keysL l → E'.b k = E.b k ∧ E'.v k = E.v k) : SV.denL E' l = SV.denL E l := by
 have := SV.denL_ren (ρ := id) hj l h
 rwa [SV.renL_id] at this
def shM (m : Mem) : Mem := m.map fun e=>(e.1 + 500,e.2.ren (· + 500))
def RetM (w : World) (H : HV) (Φ : SV → Mem → Prop) : Value → World → Prop :=
 fun u w'=>∃ v m E1 H',Φ v m ∧ u = v.den E1 ∧ Good ⟨w,H⟩ m E1 H' w' ∧ v.Ok H' ∧ v.jk 0 = false ∧ (∀ x,x ∈ m → x.2.jk 0 = false)

theorem OOk.ctx {C C' : Ctx} {E : Env} {H : HV} {w : World} {k : Nat} {o : OBlk} (h : OOk C E H w k o) (hs : C'.w0.heap.size ≤ C.w0.heap.size) : OOk C' E H w k o := by
 cases o with
 | cells t cs=>exact ⟨Nat.le_trans hs h.1,h.2⟩
 | pub d=>exact h
 | map es=>exact ⟨Nat.le_trans hs h.1,h.2⟩
 | mapD kk ag ts d=>exact ⟨Nat.le_trans hs h.1,h.2⟩
 | arr e d =>
  obtain ⟨hd,sz,rows,h1,h2,h3,h4⟩ := h
  exact ⟨hd,sz,rows,h1,h2,ownsRow_mono h3 hs,h4⟩

theorem OBlk.lies_ren (ρ : Nat → Nat) (o : OBlk) : (o.ren ρ).Lies ↔ o.Lies := by cases o <;> rfl

section
variable {P : Program} {C : Ctx} {R : Value → World → Prop}

theorem runs_frame {top g : SFrm} {rest : List SFrm} {mem : Mem} {Φ : SV → Mem → Prop}
  (hpure : ∀ k,k ∉ SV.keysL top.tmps) (hlow : ∀ k,k ∈ SV.keysL g.tmps ++ ((rest.flatMap fun f=>SV.keysL f.tmps) ++ mem.named) → k < 500)
  (h1 : ∀ (H : HV) (w : World),SV.OkL H top.tmps → Runs P ⟨w,H⟩ ⟨top,[],[]⟩ (RetM w H Φ))
  (h2 : ∀ v m,Φ v m → Runs P C ⟨{ g with tmps := putS g.tmps g.await (v.ren (· + 500)),await := none },rest,shM m ++ mem⟩ R) (hpn : C.x.pn = none := by rfl) :
  Runs P C ⟨top,g :: rest,mem⟩ R := by
 intro E H w gd ok
 have hcell := gd.cell
 have hr := h1 H w ok.1 E H w (good_start hcell E) ⟨ok.1,by simp⟩
 rw [stkRun_eq] at hr ⊢
 simp only [List.map_nil,restOf] at hr
 simp only [List.map_cons,restOf]
 refine CFrm.run_mono hr fun u w' ⟨v,m,E1,H',hΦ,hu,g1,hv,hvj,hmj⟩=>?_
 -- where all lies afterwards
 let E2 : Env := ⟨fun k=>if 500 ≤ k then E1.b (k - 500) else E.b k,fun k=>if 500 ≤ k then E1.v (k - 500) else E.v k,E.j⟩
 let E1' : Env := ⟨E1.b,E1.v,E.j⟩
 have hs1 : Same 0 E1 E1' := ⟨rfl,rfl,fun i hi=>absurd hi (Nat.not_lt_zero _)⟩
 have g1' : Good ⟨w,H⟩ m E1' H' w' := g1.same' hs1 hmj
 have hu' : u = v.den E1' := by rw [hu]; exact (den_same hs1 v hvj).symm
 have hren : ∀ k,Ren (· + 500) E1' E2 k := fun k=>by
  refine ⟨?_,?_⟩ <;> simp [E2,E1']
 have hold : ∀ k,k < 500 → E2.b k = E.b k ∧ E2.v k = E.v k := fun k hk=>by
  refine ⟨?_,?_⟩ <;> simp [E2] <;> omega
 have hden : v.den E1' = (v.ren (· + 500)).den E2 := (SV.den_ren (ρ := (· + 500)) (E := E1') (E' := E2) rfl v (fun k _=>hren k)).symm
 have hmemlow : ∀ k,k ∈ mem.named → k < 500 := fun k hk=>hlow k (List.mem_append_right _ (List.mem_append_right _ hk))
 have gm : Good C mem E H' w' := gd.call g1.below g1.ext g1.fresh g1.cell
 have gm2 : Good C mem E2 H' w' := gm.envTo rfl (fun k hk=>hold k (hmemlow k hk)) fun f hf=>by rw [hpn] at hf; cases hf
 have hlowm : ∀ k o,(k,o) ∈ m → w.heap.size ≤ E1.b k ∨ ¬o.Lies := fun k o hko=>by
  by_cases hl : o.Lies
  ·exact .inl ((g1.own k o hko).low hl)
  ·exact .inr hl
 have good2 : Good C (shM m ++ mem) E2 H' w' := by
  refine ⟨gm.below,gm.ext,gm.fresh,gm.cell,fun k o hko=>?_,?_,fun x y hx hy hne hlx hly=>?_,gm2.fix⟩
  ·rcases List.mem_append.1 hko with h | h
   ·obtain ⟨⟨k',o'⟩,hm,he⟩ := List.mem_map.1 h
    cases he
    exact (OOk.ren (ρ := (· + 500)) (E := E1') (E' := E2) rfl (g1'.own k' o' hm) (hren k') (fun j _=>hren j) (fun es _ hk=>keysOk_ren hk)).ctx gd.below.size
   ·exact gm2.own k o h
  ·rw [List.pairwise_append]
   refine ⟨?_,gm.keys,fun x hx y hy=>?_⟩
   ·rw [shM,List.pairwise_map]
    exact g1.keys.imp fun h=>by simpa using h
   ·obtain ⟨x',hx',rfl⟩ := List.mem_map.1 hx
    have := hmemlow y.1 (named_key (o := y.2) hy)
    simp only; omega
  ·have newb : ∀ z : Nat × OBlk,z ∈ shM m → z.2.Lies → w.heap.size ≤ E2.b z.1 ∧ ∃ z',z' ∈ m ∧ z.1 = z'.1 + 500 ∧ z'.2.Lies ∧ E2.b z.1 = E1.b z'.1 := fun z hz hl=>by
    obtain ⟨z',hz',rfl⟩ := List.mem_map.1 hz
    have hl' := (OBlk.lies_ren _ _).1 hl
    have hb : E2.b (z'.1 + 500) = E1.b z'.1 := (hren z'.1).1
    exact ⟨by rw [hb]; exact (g1.own z'.1 z'.2 hz').low hl',z',hz',rfl,hl',hb⟩
   have oldb : ∀ z : Nat × OBlk,z ∈ mem → z.2.Lies → E2.b z.1 < w.heap.size := fun z hz hl=>by
    rw [(hold z.1 (hmemlow z.1 (named_key (o := z.2) hz))).1]
    exact (gd.own z.1 z.2 hz).lt hl
   rcases List.mem_append.1 hx with hx | hx <;> rcases List.mem_append.1 hy with hy | hy
   ·obtain ⟨_,x',hx',ex,lx,bx⟩ := newb x hx hlx
    obtain ⟨_,y',hy',ey,ly,by'⟩ := newb y hy hly
    rw [bx,by']
    exact g1.apart x' y' hx' hy' (fun h=>hne (by rw [ex,ey,h])) lx ly
   ·have := (newb x hx hlx).1; have := oldb y hy hly; omega
   ·have := oldb x hx hlx; have := (newb y hy hly).1; omega
   ·exact gm2.apart x y hx hy hne hlx hly
 have hgt : SV.denL E2 g.tmps = SV.denL E g.tmps := denL_envTo (E := E) (E' := E2) rfl fun k hk=>hold k (hlow k (List.mem_append_left _ hk))
 have hrt : rest.map (SFrm.den E2) = rest.map (SFrm.den E) := by
  apply List.map_congr_left
  intro f hf
  simp only [SFrm.den]
  rw [denL_envTo (E := E) (E' := E2) rfl fun k hk=>hold k (hlow k (List.mem_append_right _ (List.mem_append_left _ (List.mem_flatMap.2 ⟨f,hf,hk⟩))))]
 have okg : SV.OkL H' g.tmps := SV.OkL.mono g1.ext _ (ok.2 g List.mem_cons_self)
 have fin := h2 v m hΦ E2 H' w' good2 ⟨okL_putS okg (SV.ok_ren v hv),fun f hf=>SV.OkL.mono g1.ext _ (ok.2 f (List.mem_cons_of_mem _ hf))⟩
 simp only [SFrm.den] at fin ⊢
 rw [← put_den,hgt,← hden,← hu'] at fin
 rw [hrt] at fin
 cases rest <;> exact fin
theorem retM {w : World} {H : HV} {Φ : SV → Mem → Prop} {fn : FuncId} {aw : Option Tmp} {k : List Item} {tmps : List SV} {mem : Mem} {f : Func} {l : List SV} (m' : Mem) (hfn : P.funcs[fn]? = some f) (hres : resS P mem tmps f.results.toList = some l)
  (hsub : m'.Sublist mem) (hj : (one? l).jk 0 = false) (hjm : m'.all (fun x=>!x.2.jk 0) = true) (h : Φ (one? l) m') : (Tree.leaf ⟨⟨fn,none,aw,.code .ret :: k,tmps⟩,[],mem⟩).holds P ⟨w,H⟩ (RetM w H Φ) := by
 refine runs_ret hfn hres fun E H' w' g hv=>⟨_,m',E,H',h,rfl,g.sub hsub,hv,hj,fun x hx=>?_⟩
 have := List.all_eq_true.1 hjm x hx
 simpa using this
def atRet (c : Conf) : Bool :=
 match c.rest with
 | []=>match c.top.ri with
  | none=>match c.top.todo with
   | .code .ret :: _=>true
   | _=>false
  | some _=>false
 | _ :: _=>false
def execR (P : Program) (cs : Ctrs) (n : Nat) : Conf → Tree :=
 Nat.rec (motive := fun _=>Conf → Tree) (fun _=>.stuck) (fun _ ih c=>match atRet c with
  | true=>leafR c
  | false=>stepC P cs (fun _=>false) ih c) n
theorem execR_sound {cs : Ctrs} (hcs : cs.Ok P) : ∀ (n : Nat) (c : Conf),(execR P cs n c).holds P C R → Runs P C c R
 | 0,_,h=>h.elim
 | n + 1,c,h=>by
  have e : execR P cs (n + 1) c = match atRet c with
   | true=>leafR c
   | false=>stepC P cs (fun _=>false) (execR P cs n) c := rfl
  rw [e] at h
  cases hr : atRet c with
  | true=>rw [hr,leafR_eq] at h; exact h
  | false=>rw [hr] at h; exact step_sound (U := fun _=>false) (ih := execR P cs n) hcs (fun c h=>execR_sound hcs n c h) c h
end
end Sx
end
noncomputable section
namespace Sx
open Go RowKit





section
variable {P : Program} {C : Ctx} {Φ : Bool → List SV → Mem → Prop}






end
theorem Good.ctx {C C' : Ctx} {m : Mem} {E : Env} {H : HV} {w : World} (g : Good C m E H w) (h0 : C'.w0 = C.w0) (hle : HLe C'.H0 H) (hf : ∀ b o v,H b o = some v → C'.H0 b o = some v ∨ C.w0.heap.size ≤ b) (hx : FixOk C'.x C.w0.heap.size E w) : Good C' m E H w := by
 obtain ⟨w0,H0⟩ := C'
 simp only at h0
 subst h0
 refine ⟨g.below,hle,hf,g.cell,fun k o hk=>?_,g.keys,g.apart,hx⟩
 have := g.own k o hk
 cases o <;> exact this
theorem Good.still {C : Ctx} {m : Mem} {E : Env} {H : HV} {w w' : World} (g : Good C m E H w) (hos : w'.os = w.os) (ht : w'.tape = w.tape) (hu : w'.output = w.output) (hs : w.heap.size ≤ w'.heap.size)
  (hb : ∀ j o,w.heap[j]? = some o → w'.heap[j]? = some o ∨ (stillO o = true ∧ C.w0.heap.size ≤ j ∧ C.x.fx j = none)) : Good C m E H w' := by
 have hq : ∀ j o,w.heap[j]? = some o → stillO o = false → w'.heap[j]? = w.heap[j]? := fun j o hj ho=>by
  rcases hb j o hj with h | ⟨h,_⟩
  ·rw [h,hj]
  ·rw [ho] at h; cases h
 have hc : ∀ b o v,H b o = some v → w'.heap[b]? = w.heap[b]? := fun b o v h=>by
  have h1 := g.cell b o v h
  cases hj : w.heap[b]? with
  | none=>simp [World.cell?,hj] at h1
  | some q =>
   rw [← hj]
   refine hq b q hj ?_
   simp only [World.cell?,hj,Option.isSome_none,Bool.false_eq_true,if_false] at h1
   cases q <;> first | rfl | (simp at h1)
 refine ⟨⟨hos.trans g.below.os,ht.trans g.below.tape,hu.trans g.below.output,Nat.le_trans g.below.size hs,fun j hj=>?_⟩,g.ext,g.fresh,fun b o v h=>?_,fun k o h=>?_,g.keys,g.apart,?_⟩
 ·rw [← g.below.block j hj]
  have hlt : j < w.heap.size := Nat.lt_of_lt_of_le hj g.below.size
  have hget : w.heap[j]? = some w.heap[j] := by simp [hlt]
  rcases hb j _ hget with h | ⟨_,h,_⟩
  ·rw [h,hget]
  ·omega
 ·rw [cell_of_heap (w := w) (hc b o v h)]; exact g.cell b o v h
 ·refine (g.own k o h).keep fun hl=>?_
  have hlt := (g.own k o h).lt hl
  have hget : w.heap[E.b k]? = some w.heap[E.b k] := by simp [hlt]
  exact hq _ _ hget ((g.own k o h).moves hl hget)
 ·refine ⟨fun b o h=>⟨?_,(g.fix.fx b o h).2⟩,g.fix.mark,g.fix.nodup,g.fix.pin⟩
  rcases hb b o (g.fix.fx b o h).1 with h1 | ⟨_,_,h1⟩
  ·exact h1
  ·rw [h1] at h; cases h
theorem Good.junk {C : Ctx} {m : Mem} {E : Env} {H : HV} {w : World} (g : Good C m E H w) (j : Nat → Value) (hm : m.all (fun x=>!x.2.jk 0) = true) : Good C m ⟨E.b,E.v,j⟩ H w :=
 g.same' (n := 0) ⟨rfl,rfl,fun i hi=>absurd hi (Nat.not_lt_zero _)⟩ fun x hx=>by simpa using List.all_eq_true.1 hm x hx
end Sx
end
noncomputable section
namespace Sx
open Go RowKit
def MemTo (m m' : Mem) : Prop := ∀ (C : Ctx) (E : Env) (H : HV) (w : World),Good C m E H w → ∃ E',E'.j = E.j ∧ (∀ k,PIN ≤ k → E'.b k = E.b k) ∧ Good C m' E' H w

theorem MemTo.sub {m m' : Mem} (h : m'.Sublist m) : MemTo m m' := fun _ E _ _ g=>⟨E,rfl,fun _ _=>rfl,g.sub h⟩
theorem MemTo.refl (m : Mem) : MemTo m m := fun _ E _ _ g=>⟨E,rfl,fun _ _=>rfl,g⟩
theorem MemTo.ren {m : Mem} (ρ : Nat → Nat) (hpin : ∀ k,PIN ≤ k → ρ k = k) (hlow : ∀ k,k ∈ m.named → k < PIN → ρ k < PIN)
  (hinj : ∀ k j,k ∈ m.named → j ∈ m.named → ρ k = ρ j → k = j) : MemTo m (m.map fun e=>(ρ e.1,e.2.ren ρ)) := by
 intro C E H w g
 let inv : Nat → Nat := fun i=>if PIN ≤ i then i else ((m.named.find? fun k=>ρ k == i).getD i)
 let E' : Env := ⟨fun i=>E.b (inv i),fun i=>E.v (inv i),E.j⟩
 have hinv : ∀ k,k ∈ m.named → inv (ρ k) = k := fun k hk=>by
  rcases Nat.lt_or_ge k PIN with h | h
  ·have hl := hlow k hk h
   simp only [inv,if_neg (Nat.not_le.2 hl)]
   cases hf : m.named.find? fun j=>ρ j == ρ k with
   | none =>
    have := List.find?_eq_none.1 hf k hk
    simp at this
   | some j =>
    have h1 := List.find?_some hf
    have h2 := List.mem_of_find?_eq_some hf
    simp only [beq_iff_eq] at h1
    simp only [Option.getD_some]
    exact hinj j k h2 hk h1
  ·rw [hpin k h]; simp only [inv,if_pos h]
 have ren : ∀ k,k ∈ m.named → Ren ρ E E' k := fun k hk=>by
  simp only [Ren,E',hinv k hk,and_self]
 refine ⟨E',rfl,fun k hk=>by simp only [E',inv,if_pos hk],?_⟩
 refine ⟨g.below,g.ext,g.fresh,g.cell,fun k o hko=>?_,?_,fun x y hx hy hne hlx hly=>?_,g.fix.keep (fun k hk=>by simp only [E',inv,if_pos hk]) fun _ _ h _=>h⟩
 ·obtain ⟨e,he,h1⟩ := List.mem_map.1 hko
  simp only [Prod.mk.injEq] at h1
  obtain ⟨rfl,rfl⟩ := h1
  exact (g.own e.1 e.2 he).ren (E' := E') (show E'.j = E.j from rfl) (ren _ (named_key (o := e.2) he)) (fun j hj=>ren j (named_in he hj)) (fun es _ hk=>keysOk_ren hk)
 ·rw [List.pairwise_map]
  refine g.keys.imp_of_mem ?_
  intro a b ha hb hne e
  exact hne (hinj _ _ (named_key (o := a.2) ha) (named_key (o := b.2) hb) e)
 ·obtain ⟨a,ha,h1⟩ := List.mem_map.1 hx
  obtain ⟨b,hb,h2⟩ := List.mem_map.1 hy
  subst h1; subst h2
  simp only at hne hlx hly ⊢
  rw [(ren a.1 (named_key (o := a.2) ha)).1,(ren b.1 (named_key (o := b.2) hb)).1]
  exact g.apart a b ha hb (fun e=>hne (by rw [e])) ((OBlk.lies_ren _ _).1 hlx) ((OBlk.lies_ren _ _).1 hly)
def Ctx.marked (C : Ctx) (D : Nat) : Ctx := @Ctx.mk C.w0 C.H0 ⟨fun b=>if b = D then some (.deferred (some [])) else C.x.fx b,D :: C.x.df,C.x.rd,C.x.pn⟩
def Ctx.loopX (C : Ctx) (Hb : HV) (pb : Nat → Nat) (D l : Nat) (r : Loop) : Ctx :=
 @Ctx.mk C.w0 Hb ⟨fun b=>if b = D then some (.deferred (some [])) else if b = l then some (.loop r) else C.x.fx b,[],true,some pb⟩


section
variable {P : Program} {it : FuncId}

end




section
variable {P : Program} {it : FuncId}





end

section
variable {P : Program} {it : FuncId}


theorem loopX_at {C : Ctx} {Hb : HV} {pb : Nat → Nat} {D l : Nat} {r : Loop} (hne : l ≠ D) : (C.loopX Hb pb D l r).x.fx l = some (.loop r) := by
 show (if l = D then some (Obj.deferred (some [])) else if l = l then some (.loop r) else C.x.fx l) = _
 rw [if_neg hne,if_pos rfl]
theorem Good.record {C : Ctx} {Hb : HV} {pb : Nat → Nat} {D l : Nat} {r r' : Loop} {m : Mem} {E : Env} {H : HV} {w : World} (g : Good (C.loopX Hb pb D l r) m E H w) (hlow : C.w0.heap.size ≤ l) (hne : l ≠ D) (hfx : C.x.fx l = none) :
  Good (C.loopX Hb pb D l r') m E H (w.putObj l (.loop r')) := by
 have hl := (g.fix.fx l (.loop r) (loopX_at hne)).1
 have hlt := (Array.getElem?_eq_some_iff.1 hl).1
 have g1 : Good (@Ctx.mk C.w0 Hb ⟨fun b=>if b = D then some (.deferred (some [])) else C.x.fx b,[],true,some pb⟩) m E H w := by
  refine g.ctx rfl g.ext (fun b o v h=>g.fresh b o v h) ⟨fun b o h=>?_,(fun _ h=>by cases h),List.nodup_nil,g.fix.pin⟩
  refine g.fix.fx b o ?_
  show (if b = D then some (Obj.deferred (some [])) else if b = l then some (.loop r) else C.x.fx b) = some o
  have h : (if b = D then some (Obj.deferred (some [])) else C.x.fx b) = some o := h
  split at h
  ·rename_i e; rw [if_pos e]; exact h
  ·rename_i e
   rw [if_neg e]
   by_cases e2 : b = l
   ·rw [e2,hfx] at h; cases h
   ·rw [if_neg e2]; exact h
 have g2 := g1.still (w' := w.putObj l (.loop r')) rfl rfl rfl (by simp) fun j o hj=>by
  by_cases e : j = l
  ·subst e; rw [hl] at hj; cases hj
   exact .inr ⟨rfl,hlow,by show (if j = D then some (Obj.deferred (some [])) else C.x.fx j) = none; rw [if_neg hne,hfx]⟩
  ·exact .inl (by rw [heap_putObj _ _ _ _ e]; exact hj)
 refine g2.ctx rfl g2.ext (fun b o v h=>g2.fresh b o v h) ⟨fun b o h=>?_,(fun _ h=>by cases h),List.nodup_nil,g2.fix.pin⟩
 have h : (if b = D then some (Obj.deferred (some [])) else if b = l then some (.loop r') else C.x.fx b) = some o := h
 split at h
 ·rename_i e
  exact g2.fix.fx b o (by show (if b = D then some (Obj.deferred (some [])) else C.x.fx b) = some o; rw [if_pos e]; exact h)
 ·rename_i e
  split at h
  ·rename_i e2; cases h; rw [e2]
   exact ⟨World.putObj_heap_same hlt,rfl⟩
  ·exact g2.fix.fx b o (by show (if b = D then some (Obj.deferred (some [])) else C.x.fx b) = some o; rw [if_neg e]; exact h)
theorem Good.behind {C : Ctx} {Hb : HV} {pb : Nat → Nat} {D l : Nat} {r : Loop} {m : Mem} {E : Env} {H : HV} {w : World} (g : Good (C.loopX Hb pb D l r) m E H w) (hle : HLe C.H0 Hb) (hfr : ∀ b o v,Hb b o = some v → C.H0 b o = some v ∨ C.w0.heap.size ≤ b)
  (hpn : C.x.pn = none) (hlowD : C.w0.heap.size ≤ D) (hlow : C.w0.heap.size ≤ l) (hne : l ≠ D) (hfl : C.x.fx l = none) (hnd : D ∉ C.x.df) (hm : ∀ b,b ∈ C.x.df → C.w0.heap.size ≤ b ∧ b ≠ D ∧ C.x.fx b = some (.deferred (some []))) (hn : C.x.df.Nodup) (r' : Loop) :
  Good (C.marked D) m E H (w.putObj l (.loop r')) := by
 have g1 := g.record (r' := r') hlow hne hfl
 refine g1.ctx rfl (hle.trans g1.ext) (fun b o v h=>?_) ⟨fun b o h=>?_,fun b h=>?_,?_,fun f h=>?_⟩
 ·rcases g1.fresh b o v h with h1 | h1
  ·exact hfr b o v h1
  ·exact .inr h1
 ·refine g1.fix.fx b o ?_
  show (if b = D then some (Obj.deferred (some [])) else if b = l then some (.loop r') else C.x.fx b) = some o
  have h : (if b = D then some (Obj.deferred (some [])) else C.x.fx b) = some o := h
  split at h
  ·rename_i e; rw [if_pos e]; exact h
  ·rename_i e
   rw [if_neg e]
   by_cases e2 : b = l
   ·rw [e2,hfl] at h; cases h
   ·rw [if_neg e2]; exact h
 ·have h : b ∈ D :: C.x.df := h
  rcases List.mem_cons.1 h with rfl | h
  ·exact ⟨hlowD,by show (if b = b then some (Obj.deferred (some [])) else C.x.fx b) = _; rw [if_pos rfl]⟩
  ·obtain ⟨h1,h2,h3⟩ := hm b h
   exact ⟨h1,by show (if b = D then some (Obj.deferred (some [])) else C.x.fx b) = _; rw [if_neg h2]; exact h3⟩
 ·exact List.nodup_cons.2 ⟨hnd,hn⟩
 ·have h : C.x.pn = some f := h
  rw [hpn] at h; cases h

end
end Sx
end
noncomputable section
namespace Sx
open Go RowKit






section
variable {P : Program} {C : Ctx} {R : Value → World → Prop}






theorem MemTo.perm {m m' : Mem} (hp : m'.Perm m) : MemTo m m' := fun _ E _ _ g=>⟨E,rfl,fun _ _=>rfl,g.perm hp⟩
theorem MemTo.trans {a b c : Mem} (h : MemTo a b) (k : MemTo b c) : MemTo a c := fun C E H w g=>by
 obtain ⟨E1,h1,h2,h3⟩ := h C E H w g
 obtain ⟨E2,k1,k2,k3⟩ := k C E1 H w h3
 exact ⟨E2,k1.trans h1,fun q hq=>(k2 q hq).trans (h2 q hq),k3⟩
def moveK (a b k : Nat) : Nat :=
 match Nat.beq k a with
 | true=>b
 | false=>k
theorem MemTo.move {m : Mem} (a b : Nat) (hab : (Nat.blt a PIN && Nat.blt b PIN && !(m.named.contains b)) = true) : MemTo m (m.map fun e=>(moveK a b e.1,e.2.ren (moveK a b))) := by
 simp only [Bool.and_eq_true,Bool.not_eq_true',Nat.blt_eq] at hab
 obtain ⟨⟨ha,hb⟩,hno⟩ := hab
 have hno : b ∉ m.named := fun h=>by
  have := List.contains_iff_mem.2 h
  rw [hno] at this; cases this
 have e1 : ∀ k,k ≠ a → moveK a b k = k := fun k h=>by
  have : Nat.beq k a = false := by
   cases hb : Nat.beq k a with
   | false=>rfl
   | true=>exact absurd (Nat.eq_of_beq_eq_true hb) h
  simp only [moveK,this]
 have e2 : moveK a b a = b := by simp only [moveK,Nat.beq_refl]
 refine MemTo.ren _ (fun k hk=>e1 k (by omega)) (fun k _ hk=>?_) fun k j hk hj e=>?_
 ·by_cases h : k = a
  ·subst h; rw [e2]; exact hb
  ·rw [e1 k h]; exact hk
 ·by_cases h : k = a <;> by_cases h' : j = a
  ·rw [h,h']
  ·subst h; rw [e2,e1 j h'] at e; exact absurd (e ▸ hj) hno
  ·subst h'; rw [e2,e1 k h] at e; exact absurd (e ▸ hk) hno
  ·rw [e1 k h,e1 j h'] at e; exact e

end
end Sx
end
noncomputable section
namespace Sx
open Go RowKit
def SV.pinned : SV → Bool
 | .ptr k _=>Nat.ble PIN k
 | .mapp k=>Nat.ble PIN k
 | .sl k _=>Nat.ble PIN k
 | .int ..=>true
 | .bool _=>true
 | .lb _=>true
 | .str _=>true
 | .nils=>true
 | .dat _=>true
 | .elt ..=>true
 | .nilp=>true
 | .nilf=>true
 | .undef=>true
 | .junk _=>true
 | .raw _=>true
 | _=>false
theorem den_pinned {E E' : Env} (hj : E'.j = E.j) (hb : ∀ k,PIN ≤ k → E'.b k = E.b k) : ∀ x : SV,x.pinned = true → x.den E' = x.den E
 | .ptr k _,h=>by simp only [SV.den,hb k (Nat.le_of_ble_eq_true h)]
 | .mapp k,h=>by simp only [SV.den,hb k (Nat.le_of_ble_eq_true h)]
 | .sl k _,h=>by simp only [SV.den,hb k (Nat.le_of_ble_eq_true h)]
 | .int ..,_=>by simp [SV.den]
 | .bool _,_=>by simp [SV.den]
 | .lb _,_=>by simp [SV.den]
 | .str _,_=>by simp [SV.den]
 | .nils,_=>by simp [SV.den]
 | .dat _,_=>by simp [SV.den]
 | .elt ..,_=>by simp [SV.den]
 | .nilp,_=>by simp [SV.den]
 | .nilf,_=>by simp [SV.den]
 | .undef,_=>by simp [SV.den]
 | .junk _,_=>by simp [SV.den,hj]
 | .raw _,_=>by simp [SV.den]
theorem denL_pinned {E E' : Env} (hj : E'.j = E.j) (hb : ∀ k,PIN ≤ k → E'.b k = E.b k) : ∀ l : List SV,l.all SV.pinned = true → SV.denL E' l = SV.denL E l
 | [],_=>rfl
 | x :: r,h=>by
  simp only [List.all_cons,Bool.and_eq_true] at h
  simp only [SV.denL,den_pinned hj hb x h.1,denL_pinned hj hb r h.2]
abbrev pinX (f : Nat → Nat) : CtxX := ⟨fun _=>none,[],false,some f⟩
def RetP (w0 : World) (H : HV) (f : Nat → Nat) (Φ : SV → Mem → Prop) : Value → World → Prop :=
 fun u w'=>∃ v m E1 H',Φ v m ∧ u = v.den E1 ∧ Good ⟨w0,H⟩ m E1 H' w' ∧ (∀ k,PIN ≤ k → E1.b k = f k) ∧ v.Ok H' ∧ v.jk 0 = false ∧ (∀ x,x ∈ m → x.2.jk 0 = false)
section
variable {P : Program} {R : Value → World → Prop}
theorem runs_meth {w0 : World} {H0 : HV} {top g : SFrm} {rest : List SFrm} {mem : Mem} {Φ : SV → Mem → Prop}
  (hgp : (g.tmps.all SV.pinned && rest.all fun f=>f.tmps.all SV.pinned) = true)
  (h1 : ∀ (H : HV) (f : Nat → Nat),SV.OkL H top.tmps → Runs P (@Ctx.mk w0 H (pinX f)) ⟨top,[],mem⟩ (RetP w0 H f Φ))
  (h2 : ∀ v m,Φ v m → Runs P ⟨w0,H0⟩ ⟨{ g with tmps := putS g.tmps g.await v,await := none },rest,m⟩ R) :
  Runs P ⟨w0,H0⟩ ⟨top,g :: rest,mem⟩ R := by
 intro E H w gd ok
 simp only [Bool.and_eq_true,List.all_eq_true] at hgp
 have gd1 : Good (@Ctx.mk w0 H (pinX E.b)) mem E H w :=
  ⟨gd.below,HLe.refl _,fun _ _ _ h=>.inl h,gd.cell,fun k o h=>by have := gd.own k o h; cases o <;> exact this,gd.keys,gd.apart,⟨(fun _ _ h=>nomatch h),(fun _ h=>nomatch h),List.nodup_nil,fun f hf k _=>by cases hf; rfl⟩⟩
 have hr := h1 H E.b ok.1 E H w gd1 ⟨ok.1,by simp⟩
 rw [stkRun_eq] at hr ⊢
 simp only [List.map_nil,restOf] at hr
 simp only [List.map_cons,restOf]
 refine CFrm.run_mono hr fun u w' ⟨v,m,E1,H',hΦ,hu,g1,hpin,hv,hvj,hmj⟩=>?_
 let E2 : Env := ⟨E1.b,E1.v,E.j⟩
 have hs1 : Same 0 E1 E2 := ⟨rfl,rfl,fun i hi=>absurd hi (Nat.not_lt_zero _)⟩
 have g2 : Good ⟨w0,H⟩ m E2 H' w' := g1.same' hs1 hmj
 have hu' : u = v.den E2 := by rw [hu]; exact (den_same hs1 v hvj).symm
 have g3 : Good ⟨w0,H0⟩ m E2 H' w' :=
  ⟨g2.below,gd.ext.trans g2.ext,fun b o x h=>by
   rcases g2.fresh b o x h with h | h
   ·exact gd.fresh b o x h
   ·exact .inr h,g2.cell,fun k o h=>by have := g2.own k o h; cases o <;> exact this,g2.keys,g2.apart,fixOk_plain _ _ _⟩
 have hb : ∀ k,PIN ≤ k → E2.b k = E.b k := hpin
 have hgt : SV.denL E2 g.tmps = SV.denL E g.tmps := denL_pinned (E := E) (E' := E2) rfl hb _ (List.all_eq_true.2 hgp.1)
 have hrt : rest.map (SFrm.den E2) = rest.map (SFrm.den E) := by
  apply List.map_congr_left
  intro f hf
  simp only [SFrm.den]
  rw [denL_pinned (E := E) (E' := E2) rfl hb _ (List.all_eq_true.2 (hgp.2 f hf))]
 have okg : SV.OkL H' g.tmps := SV.OkL.mono g2.ext _ (ok.2 g List.mem_cons_self)
 have fin := h2 v m hΦ E2 H' w' g3 ⟨okL_putS okg hv,fun f hf=>SV.OkL.mono g2.ext _ (ok.2 f (List.mem_cons_of_mem _ hf))⟩
 simp only [SFrm.den] at fin ⊢
 rw [← put_den,hgt,← hu'] at fin
 rw [hrt] at fin
 cases rest <;> exact fin

end
def pickK (ks : List Nat) (m : Mem) : Mem := ks.filterMap fun k=>(Mem.get m k).map fun o=>(k,o)
theorem MemTo.pickK {m : Mem} (ks : List Nat) (hn : ks.Nodup) : MemTo m (pickK ks m) := fun C E H w g=>by
 have hmem : ∀ x,x ∈ Sx.pickK ks m → x ∈ m := fun x hx=>by
  obtain ⟨k,_,hk⟩ := List.mem_filterMap.1 hx
  obtain ⟨o,ho,rfl⟩ := Option.map_eq_some_iff.1 hk
  exact Mem.get_mem ho
 refine ⟨E,rfl,fun _ _=>rfl,⟨g.below,g.ext,g.fresh,g.cell,fun k o h=>g.own k o (hmem _ h),?_,fun x y hx hy=>g.apart x y (hmem x hx) (hmem y hy),g.fix⟩⟩
 unfold Sx.pickK
 rw [List.pairwise_filterMap]
 refine hn.imp fun {a b} hab x hx y hy=>?_
 obtain ⟨_,_,rfl⟩ := Option.map_eq_some_iff.1 hx
 obtain ⟨_,_,rfl⟩ := Option.map_eq_some_iff.1 hy
 exact hab
def moveM (m : Mem) : List (Nat × Nat) → Option Mem
 | []=>some m
 | (a,b) :: r=>match Nat.blt a PIN && Nat.blt b PIN && !(m.named.contains b) with
  | true=>moveM (m.map fun e=>(moveK a b e.1,e.2.ren (moveK a b))) r
  | false=>none
theorem MemTo.moves : ∀ (l : List (Nat × Nat)) {m m' : Mem},moveM m l = some m' → MemTo m m'
 | [],m,m',h=>by simp only [moveM,Option.some.injEq] at h; subst h; exact MemTo.refl _
 | (a,b) :: r,m,m',h=>by
  simp only [moveM] at h
  split at h
  ·rename_i hc; exact (MemTo.move a b hc).trans (MemTo.moves r h)
  ·cases h
theorem MemTo.to {m : Mem} (l : List (Nat × Nat)) (ks : List Nat) {m' : Mem} (h : (moveM m l).map (Sx.pickK ks) = some m') (hn : ks.Nodup := by decide) : MemTo m m' := by
 obtain ⟨m1,h1,rfl⟩ := Option.map_eq_some_iff.1 h
 exact (MemTo.moves l h1).trans (MemTo.pickK ks hn)
section
variable {P : Program}
theorem ret_true {w0 : World} {H : HV} {f : Nat → Nat} {Ψ : Mem → Prop} {fn : FuncId} {aw : Option Tmp} {k : List Item} {tmps : List SV} {mem : Mem} {fd : Func} {l : List SV} (m' : Mem) (mv : List (Nat × Nat)) (ks : List Nat)
  (hfn : P.funcs[fn]? = some fd) (hres : resS P mem tmps fd.results.toList = some l) (ht : ∀ E,(one? l).den E = .bool true) (hm : (moveM mem mv).map (pickK ks) = some m') (hn : ks.Nodup)
  (hjm : m'.all (fun x=>!x.2.jk 0) = true) (h : Ψ m') : (Tree.leaf ⟨⟨fn,none,aw,.code .ret :: k,tmps⟩,[],mem⟩).holds P (@Ctx.mk w0 H (pinX f)) (RetP w0 H f fun v m=>v = .lb true ∧ Ψ m) := by
 intro E Hx w g ok
 have hpin := g.fix.pin f rfl
 obtain ⟨h1,h2⟩ := run_results (P := P) g.take ok.1 hres
 refine Go1.ret hfn rfl g.fix.nodup (fun D hD=>(g.fix.fx D _ (g.fix.mark D hD).2).1) h1 ?_
 obtain ⟨E',e1,e2,g'⟩ := MemTo.to mv ks hm hn _ E Hx _ g.take
 exact ⟨.lb true,m',E',Hx,⟨rfl,h⟩,(ht E).trans (by simp [SV.den]),g',fun q hq=>(e2 q hq).trans (hpin q hq),by simp [SV.Ok],rfl,fun x hx=>by
  have := List.all_eq_true.1 hjm x hx
  simpa using this⟩
end
def keyOf : SV → Option Nat
 | .vec k=>some k
 | .view k _ _ _=>some k
 | _=>none
def mvAt (cs : List SV) : List Nat → Nat → List (Nat × Nat) × List (Nat × Nat)
 | [],_=>([],[])
 | o :: r,i=>match (cs[o]?).bind keyOf,mvAt cs r (i + 1) with
  | some k,(a,b)=>((k,5000 + i) :: a,(5000 + i,i) :: b)
  | none,(a,b)=>(a,b)
def mvOf (K : Nat) (offs : List Nat) (m : Mem) : List (Nat × Nat) :=
 match m.get K with
 | some (.cells _ cs)=>(mvAt cs offs 0).1 ++ (mvAt cs offs 0).2
 | _=>[]
section
variable {P : Program}
theorem ret_sys (K : Nat) (offs : List Nat) {w0 : World} {H : HV} {f : Nat → Nat} {Ψ : Mem → Prop} {fn : FuncId} {aw : Option Tmp} {k : List Item} {tmps : List SV} {mem : Mem} {fd : Func} {l : List SV} (m' : Mem) (ks : List Nat)
  (hfn : P.funcs[fn]? = some fd) (hres : resS P mem tmps fd.results.toList = some l) (ht : ∀ E,(one? l).den E = .bool true) (hm : (moveM mem (mvOf K offs mem)).map (pickK ks) = some m') (hn : ks.Nodup)
  (hjm : m'.all (fun x=>!x.2.jk 0) = true) (h : Ψ m') : (Tree.leaf ⟨⟨fn,none,aw,.code .ret :: k,tmps⟩,[],mem⟩).holds P (@Ctx.mk w0 H (pinX f)) (RetP w0 H f fun v m=>v = .lb true ∧ Ψ m) :=
 ret_true m' (mvOf K offs mem) ks hfn hres ht hm hn hjm h
end
theorem Good.swap {C : Ctx} {m : Mem} {E : Env} {H : HV} {w : World} {k : Nat} {o o' : OBlk} (g : Good C m E H w) (hg : m.get k = some o) (ho : OOk C E H w k o → OOk C E H w k o') (hl : o'.Lies → o.Lies) : Good C (m.set k o') E H w := by
 have hmem := Mem.get_mem hg
 have hspec := Mem.set_spec (o' := o') g.keys hg
 have hlies : ∀ z : Nat × OBlk,z ∈ m.set k o' → z.2.Lies → ∃ o,(z.1,o) ∈ m ∧ o.Lies := fun z hz hz2=>by
  rcases hspec z.1 z.2 hz with ⟨h1,h2⟩ | ⟨_,h1⟩
  ·exact ⟨o,by rw [h1]; exact hmem,hl (by rw [← h2]; exact hz2)⟩
  ·exact ⟨_,h1,hz2⟩
 refine ⟨g.below,g.ext,g.fresh,g.cell,fun q p hko=>?_,?_,fun x y hx hy hne hlx hly=>?_,g.fix⟩
 ·rcases hspec q p hko with ⟨rfl,rfl⟩ | ⟨hne,hm⟩
  ·exact ho (g.own q _ hmem)
  ·exact g.own q p hm
 ·have := g.keys
  rw [pairwise_keys] at this ⊢
  simpa [Mem.set_keys] using this
 ·obtain ⟨o1,h1,l1⟩ := hlies x hx hlx
  obtain ⟨o2,h2,l2⟩ := hlies y hy hly
  exact g.apart (x.1,o1) (y.1,o2) h1 h2 hne l1 l2
def mapIn (k : Nat) (kk : IntKind) (ag : Bool) (ts : List FT) (c : Conf) : Option Conf :=
 match c.mem.get k with
 | some (.map [])=>some ⟨c.top,c.rest,c.mem.set k (.mapD kk ag ts (.slc none 0 []))⟩
 | some (.map [(.int k1 n,.dat v)])=>match ag,ts with
  | false,[.slc]=>if k1 = kk then some ⟨c.top,c.rest,c.mem.set k (.mapD kk false [.slc] (.slc none 0 [[.int kk n,v]]))⟩ else none
  | _,_=>none
 | _=>none
theorem mapIn_to {P : Program} {C : Ctx} {R : Value → World → Prop} (k : Nat) (kk : IntKind) (ag : Bool) (ts : List FT) {c : Conf} (c' : Conf) (hc : mapIn k kk ag ts c = some c') (h : Runs P C c' R) : Runs P C c R := by
 intro E H w g ok
 unfold mapIn at hc
 split at hc
 ·rename_i hg
  cases hc
  exact h E H w (g.swap hg (fun h=>h) (fun _=>trivial)) ok
 ·rename_i k1 n v hg
  split at hc
  ·split at hc
   ·rename_i hk
    subst hk
    cases hc
    exact h E H w (g.swap hg (fun h=>h) (fun _=>trivial)) ok
   ·cases hc
  ·cases hc
 ·cases hc
theorem holds_need_i {P : Program} {C : Ctx} {R : Value → World → Prop} {p : Prop} {a : Tree} : (Tree.need p a).holds P C R ↔ p ∧ a.holds P C R := Iff.rfl
theorem holds_all_i {P : Program} {C : Ctx} {R : Value → World → Prop} {f : (Nat → Nat → D) → Tree} : (Tree.all f).holds P C R ↔ ∀ hs,(f hs).holds P C R := Iff.rfl
def execRS (P : Program) (cs : Ctrs) (S : List (FuncId × Nat)) (n : Nat) : Conf → Tree :=
 Nat.rec (motive := fun _=>Conf → Tree) (fun _=>.stuck) (fun _ ih c=>match atRet c with
  | true=>restC P c
  | false=>match restsAt S c with
   | true=>restC P c
   | false=>stepC P cs (fun _=>false) ih c) n
def atIn (F : List FuncId) (c : Conf) : Bool :=
 match c.rest with
 | []=>false
 | _ :: _=>match c.top.ri with
  | some _=>false
  | none=>match c.top.todo with
   | [.code _]=>F.contains c.top.fn
   | _=>false
def execRE (P : Program) (cs : Ctrs) (F : List FuncId) (n : Nat) : Conf → Tree :=
 Nat.rec (motive := fun _=>Conf → Tree) (fun _=>.stuck) (fun _ ih c=>match atRet c with
  | true=>restC P c
  | false=>match atIn F c with
   | true=>restC P c
   | false=>stepC P cs (fun _=>false) ih c) n
theorem execRE_sound {P : Program} {C : Ctx} {R : Value → World → Prop} {cs : Ctrs} (hcs : cs.Ok P) (F : List FuncId) : ∀ (n : Nat) (c : Conf),(execRE P cs F n c).holds P C R → Runs P C c R
 | 0,_,h=>h.elim
 | n + 1,c,h=>by
  have e : execRE P cs F (n + 1) c = match atRet c with
   | true=>restC P c
   | false=>match atIn F c with
    | true=>restC P c
    | false=>stepC P cs (fun _=>false) (execRE P cs F n) c := rfl
  rw [e] at h
  cases hr : atRet c with
  | true=>rw [hr] at h; exact fgtR_sound (headR_sound h)
  | false =>
   rw [hr] at h
   simp only at h
   cases hs : atIn F c with
   | true=>rw [hs] at h; exact fgtR_sound (headR_sound h)
   | false=>rw [hs] at h; exact step_sound (U := fun _=>false) (ih := execRE P cs F n) hcs (fun c h=>execRE_sound hcs F n c h) c h
section
variable {P : Program} {C : Ctx} {R : Value → World → Prop} {cs : Ctrs}
theorem execRS_sound (hcs : cs.Ok P) (S : List (FuncId × Nat)) : ∀ (n : Nat) (c : Conf),(execRS P cs S n c).holds P C R → Runs P C c R
 | 0,_,h=>h.elim
 | n + 1,c,h=>by
  have e : execRS P cs S (n + 1) c = match atRet c with
   | true=>restC P c
   | false=>match restsAt S c with
    | true=>restC P c
    | false=>stepC P cs (fun _=>false) (execRS P cs S n) c := rfl
  rw [e] at h
  cases hr : atRet c with
  | true=>rw [hr] at h; exact fgtR_sound (headR_sound h)
  | false =>
   rw [hr] at h
   simp only at h
   cases hs : restsAt S c with
   | true=>rw [hs] at h; exact fgtR_sound (headR_sound h)
   | false=>rw [hs] at h; exact step_sound (U := fun _=>false) (ih := execRS P cs S n) hcs (fun c h=>execRS_sound hcs S n c h) c h
end
end Sx
end
noncomputable section
namespace Sx
open Go RowKit
mutual
def SV.fixed : SV → Bool
 | .ptr k _=>Nat.ble PIN k
 | .mapp k=>Nat.ble PIN k
 | .sl k _=>Nat.ble PIN k
 | .vec _=>false
 | .velt ..=>false
 | .view ..=>false
 | .agg l=>SV.fixedL l
 | .tup l=>SV.fixedL l
 | .fn ..=>false
 | _=>true
def SV.fixedL : List SV → Bool
 | []=>true
 | x :: r=>SV.fixed x && SV.fixedL r
end
mutual
theorem den_fixed {E E' : Env} (hj : E'.j = E.j) (hb : ∀ k,PIN ≤ k → E'.b k = E.b k) : ∀ x : SV,x.fixed = true → x.den E' = x.den E
 | .ptr k _,h=>by simp only [SV.fixed] at h; simp only [SV.den,hb k (Nat.le_of_ble_eq_true h)]
 | .mapp k,h=>by simp only [SV.fixed] at h; simp only [SV.den,hb k (Nat.le_of_ble_eq_true h)]
 | .sl k _,h=>by simp only [SV.fixed] at h; simp only [SV.den,hb k (Nat.le_of_ble_eq_true h)]
 | .agg l,h=>by simp only [SV.fixed] at h; simp only [SV.den,denL_fixed hj hb l h]
 | .tup l,h=>by simp only [SV.fixed] at h; simp only [SV.den,denL_fixed hj hb l h]
 | .vec _,h=>by simp [SV.fixed] at h
 | .velt ..,h=>by simp [SV.fixed] at h
 | .view ..,h=>by simp [SV.fixed] at h
 | .fn ..,h=>by simp [SV.fixed] at h
 | .int ..,_=>by simp [SV.den]
 | .bool _,_=>by simp [SV.den]
 | .lb _,_=>by simp [SV.den]
 | .str _,_=>by simp [SV.den]
 | .nils,_=>by simp [SV.den]
 | .dat _,_=>by simp [SV.den]
 | .elt ..,_=>by simp [SV.den]
 | .nilp,_=>by simp [SV.den]
 | .nilf,_=>by simp [SV.den]
 | .undef,_=>by simp [SV.den]
 | .junk _,_=>by simp [SV.den,hj]
 | .raw _,_=>by simp [SV.den]
theorem denL_fixed {E E' : Env} (hj : E'.j = E.j) (hb : ∀ k,PIN ≤ k → E'.b k = E.b k) : ∀ l : List SV,SV.fixedL l = true → SV.denL E' l = SV.denL E l
 | [],_=>by simp [SV.denL]
 | x :: r,h=>by
  simp only [SV.fixedL,Bool.and_eq_true] at h
  simp only [SV.denL,den_fixed hj hb x h.1,denL_fixed hj hb r h.2]
end
section
variable {P : Program} {R : Value → World → Prop}
theorem runs_to {C : Ctx} {top : SFrm} {rest : List SFrm} {m m' : Mem} (hm : MemTo m m') (hp : (SV.fixedL top.tmps && rest.all fun f=>SV.fixedL f.tmps) = true) (h : Runs P C ⟨top,rest,m'⟩ R) : Runs P C ⟨top,rest,m⟩ R := by
 intro E H w g ok
 simp only [Bool.and_eq_true,List.all_eq_true] at hp
 obtain ⟨E',e1,e2,g'⟩ := hm C E H w g
 have hr := h E' H w g' ok
 have ht : top.den E' = top.den E := by simp only [SFrm.den,denL_fixed e1 e2 _ hp.1]
 have hrt : rest.map (SFrm.den E') = rest.map (SFrm.den E) := by
  apply List.map_congr_left
  intro f hf
  simp only [SFrm.den,denL_fixed e1 e2 _ (hp.2 f hf)]
 simp only [ht,hrt] at hr
 exact hr
theorem runs_methP {w0 : World} {H0 : HV} {f0 : Nat → Nat} {top g : SFrm} {rest : List SFrm} {mem : Mem} {Φ : SV → Mem → Prop}
  (hgp : (g.tmps.all SV.pinned && rest.all fun f=>f.tmps.all SV.pinned) = true)
  (h1 : ∀ (H : HV) (f : Nat → Nat),SV.OkL H top.tmps → Runs P (@Ctx.mk w0 H (pinX f)) ⟨top,[],mem⟩ (RetP w0 H f Φ))
  (h2 : ∀ v m,Φ v m → Runs P (@Ctx.mk w0 H0 (pinX f0)) ⟨{ g with tmps := putS g.tmps g.await v,await := none },rest,m⟩ R) :
  Runs P (@Ctx.mk w0 H0 (pinX f0)) ⟨top,g :: rest,mem⟩ R := by
 intro E H w gd ok
 simp only [Bool.and_eq_true,List.all_eq_true] at hgp
 have gd1 : Good (@Ctx.mk w0 H (pinX E.b)) mem E H w :=
  ⟨gd.below,HLe.refl _,fun _ _ _ h=>.inl h,gd.cell,fun k o h=>by have := gd.own k o h; cases o <;> exact this,gd.keys,gd.apart,⟨(fun _ _ h=>nomatch h),(fun _ h=>nomatch h),List.nodup_nil,fun f hf k _=>by cases hf; rfl⟩⟩
 have hr := h1 H E.b ok.1 E H w gd1 ⟨ok.1,by simp⟩
 rw [stkRun_eq] at hr ⊢
 simp only [List.map_nil,restOf] at hr
 simp only [List.map_cons,restOf]
 refine CFrm.run_mono hr fun u w' ⟨v,m,E1,H',hΦ,hu,g1,hpin,hv,hvj,hmj⟩=>?_
 let E2 : Env := ⟨E1.b,E1.v,E.j⟩
 have hs1 : Same 0 E1 E2 := ⟨rfl,rfl,fun i hi=>absurd hi (Nat.not_lt_zero _)⟩
 have g2 : Good ⟨w0,H⟩ m E2 H' w' := g1.same' hs1 hmj
 have hu' : u = v.den E2 := by rw [hu]; exact (den_same hs1 v hvj).symm
 have hb : ∀ k,PIN ≤ k → E2.b k = E.b k := hpin
 have g3 : Good (@Ctx.mk w0 H0 (pinX f0)) m E2 H' w' :=
  ⟨g2.below,gd.ext.trans g2.ext,fun b o x h=>by
   rcases g2.fresh b o x h with h | h
   ·exact gd.fresh b o x h
   ·exact .inr h,g2.cell,fun k o h=>by have := g2.own k o h; cases o <;> exact this,g2.keys,g2.apart,⟨(fun _ _ h=>nomatch h),(fun _ h=>nomatch h),List.nodup_nil,fun f hf k hk=>(hb k hk).trans (gd.fix.pin f hf k hk)⟩⟩
 have hgt : SV.denL E2 g.tmps = SV.denL E g.tmps := denL_pinned (E := E) (E' := E2) rfl hb _ (List.all_eq_true.2 hgp.1)
 have hrt : rest.map (SFrm.den E2) = rest.map (SFrm.den E) := by
  apply List.map_congr_left
  intro f hf
  simp only [SFrm.den]
  rw [denL_pinned (E := E) (E' := E2) rfl hb _ (List.all_eq_true.2 (hgp.2 f hf))]
 have okg : SV.OkL H' g.tmps := SV.OkL.mono g2.ext _ (ok.2 g List.mem_cons_self)
 have fin := h2 v m hΦ E2 H' w' g3 ⟨okL_putS okg hv,fun f hf=>SV.OkL.mono g2.ext _ (ok.2 f (List.mem_cons_of_mem _ hf))⟩
 simp only [SFrm.den] at fin ⊢
 rw [← put_den,hgt,← hu'] at fin
 rw [hrt] at fin
 cases rest <;> exact fin
end
end Sx
end
noncomputable section
namespace Sx
open Go RowKit
def SV.free : SV → Bool
 | .int ..=>true
 | .bool _=>true
 | .lb _=>true
 | .str _=>true
 | .nils=>true
 | .dat _=>true
 | .elt ..=>true
 | .nilp=>true
 | .nilf=>true
 | .undef=>true
 | .junk _=>true
 | .raw _=>true
 | _=>false
theorem den_free {E E' : Env} (hj : E'.j = E.j) : ∀ x : SV,x.free = true → x.den E' = x.den E
 | .int ..,_=>by simp [SV.den]
 | .bool _,_=>by simp [SV.den]
 | .lb _,_=>by simp [SV.den]
 | .str _,_=>by simp [SV.den]
 | .nils,_=>by simp [SV.den]
 | .dat _,_=>by simp [SV.den]
 | .elt ..,_=>by simp [SV.den]
 | .nilp,_=>by simp [SV.den]
 | .nilf,_=>by simp [SV.den]
 | .undef,_=>by simp [SV.den]
 | .junk _,_=>by simp [SV.den,hj]
 | .raw _,_=>by simp [SV.den]
theorem denL_free {E E' : Env} (hj : E'.j = E.j) : ∀ l : List SV,l.all SV.free = true → SV.denL E' l = SV.denL E l
 | [],_=>rfl
 | x :: r,h=>by
  simp only [List.all_cons,Bool.and_eq_true] at h
  simp only [SV.denL,den_free hj x h.1,denL_free hj r h.2]
def RetN (w0 : World) (H : HV) (Φ : SV → Mem → Prop) : Value → World → Prop :=
 fun u w'=>∃ v m E1 H',Φ v m ∧ u = v.den E1 ∧ Good ⟨w0,H⟩ m E1 H' w' ∧ v.Ok H' ∧ v.jk 0 = false ∧ (∀ x,x ∈ m → x.2.jk 0 = false)
section
variable {P : Program} {R : Value → World → Prop}
theorem runs_new {w0 : World} {H0 : HV} {top g : SFrm} {rest : List SFrm} {mem : Mem} {Φ : SV → Mem → Prop}
  (hgp : (g.tmps.all SV.free && rest.all fun f=>f.tmps.all SV.free) = true)
  (h1 : ∀ (H : HV),SV.OkL H top.tmps → Runs P ⟨w0,H⟩ ⟨top,[],mem⟩ (RetN w0 H Φ))
  (h2 : ∀ v m,Φ v m → Runs P ⟨w0,H0⟩ ⟨{ g with tmps := putS g.tmps g.await v,await := none },rest,m⟩ R) :
  Runs P ⟨w0,H0⟩ ⟨top,g :: rest,mem⟩ R := by
 intro E H w gd ok
 simp only [Bool.and_eq_true,List.all_eq_true] at hgp
 have gd1 : Good ⟨w0,H⟩ mem E H w :=
  ⟨gd.below,HLe.refl _,fun _ _ _ h=>.inl h,gd.cell,fun k o h=>by have := gd.own k o h; cases o <;> exact this,gd.keys,gd.apart,fixOk_plain _ _ _⟩
 have hr := h1 H ok.1 E H w gd1 ⟨ok.1,by simp⟩
 rw [stkRun_eq] at hr ⊢
 simp only [List.map_nil,restOf] at hr
 simp only [List.map_cons,restOf]
 refine CFrm.run_mono hr fun u w' ⟨v,m,E1,H',hΦ,hu,g1,hv,hvj,hmj⟩=>?_
 let E2 : Env := ⟨E1.b,E1.v,E.j⟩
 have hs1 : Same 0 E1 E2 := ⟨rfl,rfl,fun i hi=>absurd hi (Nat.not_lt_zero _)⟩
 have g2 : Good ⟨w0,H⟩ m E2 H' w' := g1.same' hs1 hmj
 have hu' : u = v.den E2 := by rw [hu]; exact (den_same hs1 v hvj).symm
 have g3 : Good ⟨w0,H0⟩ m E2 H' w' :=
  ⟨g2.below,gd.ext.trans g2.ext,fun b o x h=>by
   rcases g2.fresh b o x h with h | h
   ·exact gd.fresh b o x h
   ·exact .inr h,g2.cell,fun k o h=>by have := g2.own k o h; cases o <;> exact this,g2.keys,g2.apart,fixOk_plain _ _ _⟩
 have hgt : SV.denL E2 g.tmps = SV.denL E g.tmps := denL_free (E := E) (E' := E2) rfl _ (List.all_eq_true.2 hgp.1)
 have hrt : rest.map (SFrm.den E2) = rest.map (SFrm.den E) := by
  apply List.map_congr_left
  intro f hf
  simp only [SFrm.den]
  rw [denL_free (E := E) (E' := E2) rfl _ (List.all_eq_true.2 (hgp.2 f hf))]
 have okg : SV.OkL H' g.tmps := SV.OkL.mono g2.ext _ (ok.2 g List.mem_cons_self)
 have fin := h2 v m hΦ E2 H' w' g3 ⟨okL_putS okg hv,fun f hf=>SV.OkL.mono g2.ext _ (ok.2 f (List.mem_cons_of_mem _ hf))⟩
 simp only [SFrm.den] at fin ⊢
 rw [← put_den,hgt,← hu'] at fin
 rw [hrt] at fin
 cases rest <;> exact fin
theorem ret_new {w0 : World} {H : HV} {Φ : SV → Mem → Prop} {fn : FuncId} {aw : Option Tmp} {k : List Item} {tmps : List SV} {mem : Mem} {fd : Func} {l : List SV} (v : SV) (m' : Mem) (mv : List (Nat × Nat)) (ks : List Nat) (h : Φ v m') (ht : ∀ E,(one? l).den E = v.den E)
  (hfn : P.funcs[fn]? = some fd := by kernel_rfl) (hres : resS P mem tmps fd.results.toList = some l := by kernel_rfl) (hvf : v.fixed = true := by kernel_rfl) (hvo : ∀ H,v.Ok H := by intro H; simp [SV.Ok,SV.OkL]) (hvj : v.jk 0 = false := by kernel_rfl)
  (hm : (moveM mem mv).map (pickK ks) = some m' := by kernel_rfl) (hn : ks.Nodup := by decide) (hjm : m'.all (fun x=>!x.2.jk 0) = true := by kernel_rfl) :
  (Tree.leaf ⟨⟨fn,none,aw,.code .ret :: k,tmps⟩,[],mem⟩).holds P ⟨w0,H⟩ (RetN w0 H Φ) := by
 intro E Hx w g ok
 obtain ⟨h1,h2⟩ := run_results (P := P) g.take ok.1 hres
 refine Go1.ret hfn rfl g.fix.nodup (fun D hD=>(g.fix.fx D _ (g.fix.mark D hD).2).1) h1 ?_
 obtain ⟨E',e1,e2,g'⟩ := MemTo.to mv ks hm hn _ E Hx _ g.take
 exact ⟨v,m',E',Hx,h,(ht E).trans (den_fixed e1 e2 v hvf).symm,g',hvo _,hvj,fun x hx=>by
  have := List.all_eq_true.1 hjm x hx
  simpa using this⟩
def lbSlot (i : Nat) (c : Conf) : Option Conf :=
 match c.top.tmps[i]? with
 | some (.bool true)=>some ⟨⟨c.top.fn,c.top.ri,c.top.await,c.top.todo,c.top.tmps.set i (.lb true)⟩,c.rest,c.mem⟩
 | _=>none
theorem lbSlot_to {C : Ctx} (i : Nat) {c : Conf} (c' : Conf) (hc : lbSlot i c = some c') (h : Runs P C c' R) : Runs P C c R := by
 intro E H w g ok
 unfold lbSlot at hc
 split at hc
 ·rename_i hn
  cases hc
  have hd : SV.denL E (c.top.tmps.set i (.lb true)) = SV.denL E c.top.tmps := by
   rw [denL_set,SV.denL_eq]
   apply List.ext_getElem?
   intro j
   by_cases hj : j = i
   ·subst hj
    rw [List.getElem?_set_self (by have := (List.getElem?_eq_some_iff.1 hn).1; simpa using this)]
    simp [List.getElem?_map,hn,SV.den]
   ·rw [List.getElem?_set_ne (Ne.symm hj)]
  have := h E H w g ⟨okL_putS (dst := some i) ok.1 (by simp [SV.Ok]),ok.2⟩
  simp only [SFrm.den,hd] at this ⊢
  exact this
 ·cases hc
def nilSlot (i : Nat) (c : Conf) : Option Conf :=
 match c.top.tmps[i]? with
 | some .nils=>some ⟨⟨c.top.fn,c.top.ri,c.top.await,c.top.todo,c.top.tmps.set i (.dat (.slc none 1 []))⟩,c.rest,c.mem⟩
 | _=>none
theorem nilSlot_to {C : Ctx} (i : Nat) {c : Conf} (c' : Conf) (hc : nilSlot i c = some c') (h : Runs P C c' R) : Runs P C c R := by
 intro E H w g ok
 unfold nilSlot at hc
 split at hc
 ·rename_i hn
  cases hc
  have hd : SV.denL E (c.top.tmps.set i (.dat (.slc none 1 []))) = SV.denL E c.top.tmps := by
   rw [denL_set,SV.denL_eq]
   apply List.ext_getElem?
   intro j
   by_cases hj : j = i
   ·subst hj
    rw [List.getElem?_set_self (by have := (List.getElem?_eq_some_iff.1 hn).1; simpa using this)]
    simp [List.getElem?_map,hn,SV.den,D.val,hval]
   ·rw [List.getElem?_set_ne (Ne.symm hj)]
  have := h E H w g ⟨okL_putS (dst := some i) ok.1 (by simp only [SV.Ok]; exact ⟨.nil 1,_,_,_,rfl⟩),ok.2⟩
  simp only [SFrm.den,hd] at this ⊢
  exact this
 ·cases hc
end
end Sx
end
noncomputable section
namespace Sx
open Go RowKit
section
variable {P : Program} {R : Value → World → Prop}
theorem leaf_ret {C : Ctx} {fn : FuncId} {aw : Option Tmp} {k : List Item} {tmps : List SV} {mem : Mem} {f : Func} {l : List SV} (hfn : P.funcs[fn]? = some f) (hres : resS P mem tmps f.results.toList = some l) (h : (Tree.ret (one? l)).holds P C R) :
  (Tree.leaf ⟨⟨fn,none,aw,.code .ret :: k,tmps⟩,[],mem⟩).holds P C R :=
 runs_ret hfn hres (fun E H w g hv=>h.2 E H w (g.sub (List.nil_sublist _)) hv) h.1
end
end Sx
end
noncomputable section
namespace Sx
open Go RowKit
section
variable {P : Program} {C : Ctx} {R : Value → World → Prop} {cs : Ctrs}
end
section
variable {P : Program} {R : Value → World → Prop}
end
end Sx
end
noncomputable section
namespace Sx
open Go RowKit


section
variable {P : Program} {C : Ctx} {R : Value → World → Prop} {cs : Ctrs}
end
section
variable {P : Program} {w0 : World} {H0 : HV} {R : Value → World → Prop}








end
end Sx
end
noncomputable section
namespace Sx
open Go RowKit
def pinO (a b k : Nat) : Nat :=
 match Nat.beq k a with
 | true=>b
 | false=>k
def pinOC (a b : Nat) (c : Conf) : Option Conf :=
 match Nat.blt a PIN && Nat.ble PIN b && !(c.allKeys.contains b) with
 | true=>some (renWith (pinO a b) c)
 | false=>none
theorem pinO_to {P : Program} {C : Ctx} {R : Value → World → Prop} (a b : Nat) {c : Conf} (c' : Conf) (hc : pinOC a b c = some c') (h : Runs P C c' R) (hpn : C.x.pn = none := by rfl) : Runs P C c R := by
 unfold pinOC at hc
 split at hc
 ·rename_i hchk
  cases hc
  simp only [Bool.and_eq_true,Bool.not_eq_true'] at hchk
  obtain ⟨⟨hA,hB⟩,hcont⟩ := hchk
  have hnb : ∀ k,k ∈ c.allKeys → k ≠ b := fun k hk e=>by
   subst e
   rw [List.contains_iff.2 hk] at hcont; cases hcont
  intro E H w g ok
  have all : ∀ k,k ∈ SV.keysL c.top.tmps ∨ (∃ f,f ∈ c.rest ∧ k ∈ SV.keysL f.tmps) ∨ k ∈ Mem.named c.mem → k ∈ c.allKeys := fun k hk=>by
   rcases hk with hk | ⟨f,hf,hk⟩ | hk
   ·exact meet_mem (.inl (walkK_mem (meet_mem (.inr (List.mem_append_left _ hk)))))
   ·exact meet_mem (.inl (walkK_mem (meet_mem (.inr (List.mem_append_right _ (List.mem_flatMap.2 ⟨f,hf,hk⟩))))))
   ·exact meet_mem (.inr hk)
  let E' : Env := ⟨fun i=>if i = b then E.b a else E.b i,fun i=>if i = b then E.v a else E.v i,E.j⟩
  have cas : ∀ k,k ∈ c.allKeys → (k = a ∧ pinO a b k = b) ∨ (k ≠ a ∧ k ≠ b ∧ pinO a b k = k) := fun k hk=>by
   by_cases hka : k = a
   ·left; refine ⟨hka,?_⟩; subst hka; simp only [pinO,Nat.beq_refl]
   ·right
    refine ⟨hka,hnb k hk,?_⟩
    have : Nat.beq k a = false := by
     cases hb : Nat.beq k a with
     | false=>rfl
     | true=>exact absurd (Nat.eq_of_beq_eq_true hb) hka
    simp only [pinO,this]
  have ren : ∀ k,k ∈ c.allKeys → Ren (pinO a b) E E' k := fun k hk=>by
   rcases cas k hk with ⟨h1,h2⟩ | ⟨h1,h2,h3⟩
   ·exact ⟨by show (if pinO a b k = b then E.b a else E.b (pinO a b k)) = E.b k; rw [if_pos h2,h1],by show (if pinO a b k = b then E.v a else E.v (pinO a b k)) = E.v k; rw [if_pos h2,h1]⟩
   ·simp only [Ren,E',h3,if_neg h2,and_self]
  have inj : ∀ k j,k ∈ c.allKeys → j ∈ c.allKeys → pinO a b k = pinO a b j → k = j := fun k j hk hj e=>by
   rcases cas k hk with ⟨h1,h2⟩ | ⟨h1,h2,h3⟩ <;> rcases cas j hj with ⟨g1,g2⟩ | ⟨g1,g2,g3⟩
   ·rw [h1,g1]
   ·rw [h2,g3] at e; exact absurd e.symm g2
   ·rw [h3,g2] at e; exact absurd e h2
   ·rw [h3,g3] at e; exact e
  have named : ∀ k o,(k,o) ∈ c.mem → k ∈ c.allKeys ∧ ∀ j,j ∈ o.keys → j ∈ c.allKeys := fun k o hm=>by
   refine ⟨all k (.inr (.inr ?_)),fun j hj=>all j (.inr (.inr ?_))⟩
   ·simp only [Mem.named,List.mem_flatMap]; exact ⟨_,hm,List.mem_cons_self⟩
   ·simp only [Mem.named,List.mem_flatMap]; exact ⟨_,hm,List.mem_cons_of_mem _ hj⟩
  have gd : Good C (c.mem.map fun e=>(pinO a b e.1,e.2.ren (pinO a b))) E' H w := by
   refine ⟨g.below,g.ext,g.fresh,g.cell,fun k o hko=>?_,?_,fun x y hx hy hne hlx hly=>?_,⟨g.fix.fx,g.fix.mark,g.fix.nodup,fun f hf=>by rw [hpn] at hf; cases hf⟩⟩
   ·obtain ⟨e,he,h1⟩ := List.mem_map.1 hko
    simp only [Prod.mk.injEq] at h1
    obtain ⟨rfl,rfl⟩ := h1
    obtain ⟨n1,n2⟩ := named e.1 e.2 he
    exact (g.own e.1 e.2 he).ren (E' := E') (show E'.j = E.j from rfl) (ren _ n1) (fun j hj=>ren j (n2 j hj)) (fun es _ hk=>keysOk_ren hk)
   ·rw [List.pairwise_map]
    refine g.keys.imp_of_mem ?_
    intro x y hx hy hne e
    exact hne (inj _ _ (named x.1 x.2 hx).1 (named y.1 y.2 hy).1 e)
   ·obtain ⟨x',hx',h1⟩ := List.mem_map.1 hx
    obtain ⟨y',hy',h2⟩ := List.mem_map.1 hy
    subst h1; subst h2
    simp only at hne hlx hly ⊢
    rw [(ren x'.1 (named x'.1 x'.2 hx').1).1,(ren y'.1 (named y'.1 y'.2 hy').1).1]
    exact g.apart x' y' hx' hy' (fun e=>hne (by rw [e])) ((OBlk.lies_ren _ _).1 hlx) ((OBlk.lies_ren _ _).1 hly)
  have hr := h E' H w gd ⟨SV.okL_ren _ ok.1,fun f hf=>by
   obtain ⟨f',hf',rfl⟩ := List.mem_map.1 hf
   exact SV.okL_ren _ (ok.2 f' hf')⟩
  have e1 : (renWith (pinO a b) c).top.den E' = c.top.den E := by
   simp only [renWith,SFrm.den]
   rw [SV.denL_ren (E := E) (E' := E') rfl _ fun k hk=>ren k (all k (.inl hk))]
  have e2 : (renWith (pinO a b) c).rest.map (SFrm.den E') = c.rest.map (SFrm.den E) := by
   simp only [renWith,List.map_map]
   apply List.map_congr_left
   intro f hf
   simp only [Function.comp,SFrm.den]
   rw [SV.denL_ren (E := E) (E' := E') rfl _ fun k hk=>ren k (all k (.inr (.inl ⟨f,hf,hk⟩)))]
  rw [e1,e2] at hr
  exact hr
 ·cases hc
end Sx
end
noncomputable section
open Go Go.Proofs Sx
namespace Sv
def sysN (f : FuncId) (n : Nat) (args : List (Nat × SV)) (m : Mem) : Conf := ⟨SFrm.mk f none none [Item.code (cA f [])] (mkJ 1 args 0 n),[],m⟩
def ctBg : Ctrs := [(19,ctrOf (rdInt.one.sp spNewCo)),(67,ctrOf (rdD.one.sp spNewY))]
section
variable (l : D) (no pa : Int)
theorem cg1_in : execRS Try.prog ctBg [] 400 (sysN 31 31 [(0,.int .i64 1)] []) =
 Tree.all fun hs=>.all fun hs_1=>.need (D.Is Int (D.slc (D.hd (hs_1 0 0)) 1 [[D.int .i64 1]]) ∧ D.len (D.slc (D.hd (hs_1 0 0)) 1 [[D.int .i64 1]]) ≤ 1048576)
 (.all fun hs_2=>.all fun hs_3=>.need ((0 : Int) ≤ 1 ∧ (1 : Int) = 1 ∧ (↑96 : Int) * 1 ≤ 281474976710656 ∧ (1 : Int) ≤ 9223372036854775807) (.need ((1 : Int) = 1) (.leaf (Conf.mk (SFrm.mk 31 none
 none [Item.code (cA 31 [1,1,1,1])] (mkJ 0 [(2,.ptr 0 0),(3,.bool (decide (IntKind.wrap .i64 (0 + 0) = 0)))] 0 31)) [] [(0,OBlk.cells 75 [.int .i64 0,
 .int .i64 1,.int .i64 0,.int .i64 0,.int .i64 0,.dat (D.like (hs 0 0) (List.replicate 1 (0 : Int))),.dat (D.like (hs 0 1) (List.replicate 1 false)),
 .bool false,.vec 1,SV.sl 2 1,.dat (likeSz (hs_2 0 0) (D.to Int (D.slc (D.hd (hs_1 0 0)) 1 [[D.int .i64 1]]))),.dat (likeWr (hs_2 0 1) []),.dat (likeEv (hs_2 0 2) []),
 .nils]),(1,OBlk.arr 28 (D.slc (D.hd (hs_3 2 0)) 8 (List.replicate 1 [D.int .i64 0,D.int .i64 0,D.int .i64 0,D.int .i64 0,D.bool false,D.int .i64
 0,D.slc none 0 [],D.slc none 0 []]))),(2,OBlk.cells 22 [.nils])])))) := by kernel_rfl
theorem cg2_in : execRS Try.prog ctBg [] 400 (sysN 31 31 [(0,.int .i64 2)] []) =
 Tree.all fun hs=>.all fun hs_1=>.need (D.Is Int (D.slc (D.hd (hs_1 0 0)) 1 [[D.int .i64 2]]) ∧ D.len (D.slc (D.hd (hs_1 0 0)) 1 [[D.int .i64 2]]) ≤ 1048576)
 (.all fun hs_2=>.all fun hs_3=>.need ((0 : Int) ≤ 2 ∧ (2 : Int) = 2 ∧ (↑96 : Int) * 2 ≤ 281474976710656 ∧ (2 : Int) ≤ 9223372036854775807) (.need ((2 : Int) = 2) (.leaf (Conf.mk (SFrm.mk 31 none
 none [Item.code (cA 31 [1,1,1,1])] (mkJ 0 [(2,.ptr 0 0),(3,.bool (decide (IntKind.wrap .i64 (0 + 0) = 0)))] 0 31)) [] [(0,OBlk.cells 75 [.int .i64 0,
 .int .i64 2,.int .i64 0,.int .i64 0,.int .i64 0,.dat (D.like (hs 0 0) (List.replicate 2 (0 : Int))),.dat (D.like (hs 0 1) (List.replicate 2 false)),
 .bool false,.vec 1,SV.sl 2 2,.dat (likeSz (hs_2 0 0) (D.to Int (D.slc (D.hd (hs_1 0 0)) 1 [[D.int .i64 2]]))),.dat (likeWr (hs_2 0 1) []),.dat (likeEv (hs_2 0 2) []),
 .nils]),(1,OBlk.arr 28 (D.slc (D.hd (hs_3 2 0)) 8 (List.replicate 2 [D.int .i64 0,D.int .i64 0,D.int .i64 0,D.int .i64 0,D.bool false,D.int .i64
 0,D.slc none 0 [],D.slc none 0 []]))),(2,OBlk.cells 22 [.nils,.nils])])))) := by kernel_rfl
theorem cg3_in : execRS Try.prog ctBg [] 400 (sysN 31 31 [(0,.int .i64 3)] []) =
 Tree.all fun hs=>.all fun hs_1=>.need (D.Is Int (D.slc (D.hd (hs_1 0 0)) 1 [[D.int .i64 3]]) ∧ D.len (D.slc (D.hd (hs_1 0 0)) 1 [[D.int .i64 3]]) ≤ 1048576)
 (.all fun hs_2=>.all fun hs_3=>.need ((0 : Int) ≤ 3 ∧ (3 : Int) = 3 ∧ (↑96 : Int) * 3 ≤ 281474976710656 ∧ (3 : Int) ≤ 9223372036854775807) (.need ((3 : Int) = 3) (.leaf (Conf.mk (SFrm.mk 31 none
 none [Item.code (cA 31 [1,1,1,1])] (mkJ 0 [(2,.ptr 0 0),(3,.bool (decide (IntKind.wrap .i64 (0 + 0) = 0)))] 0 31)) [] [(0,OBlk.cells 75 [.int .i64 0,
 .int .i64 3,.int .i64 0,.int .i64 0,.int .i64 0,.dat (D.like (hs 0 0) (List.replicate 3 (0 : Int))),.dat (D.like (hs 0 1) (List.replicate 3 false)),
 .bool false,.vec 1,SV.sl 2 3,.dat (likeSz (hs_2 0 0) (D.to Int (D.slc (D.hd (hs_1 0 0)) 1 [[D.int .i64 3]]))),.dat (likeWr (hs_2 0 1) []),.dat (likeEv (hs_2 0 2) []),
 .nils]),(1,OBlk.arr 28 (D.slc (D.hd (hs_3 2 0)) 8 (List.replicate 3 [D.int .i64 0,D.int .i64 0,D.int .i64 0,D.int .i64 0,D.bool false,D.int .i64
 0,D.slc none 0 [],D.slc none 0 []]))),(2,OBlk.cells 22 [.nils,.nils,.nils])])))) := by kernel_rfl
theorem tbg_in : execRE Try.prog ctBg [31,32] 400 (entry Try.prog 6 [.int .u8 no,.int .u8 pa,.dat l]) =
 Tree.need ((3 : Int) ≠ 0) (.leaf (Conf.mk (SFrm.mk 31 none none [Item.code (cA 31 [])] (mkJ 1 [(0,.int .i64 (IntKind.wrap .i64 (IntKind.wrap .i64 (Int.tmod no
 3) + 1)))] 0 31)) [SFrm.mk 6 (some (oA 6 [1,0],[5,6,7,8,9])) (some 26) [Item.code (cA 6 [1,1])] (mkJ 0 [(1,.int .u8 pa),(2,.dat l)] 0 133)] [])) := by kernel_rfl
end
def noC (a b N : Nat) (now : Int) (c : Co) (pd sd zd wd ed : D) (h : Hist) : OBlk := .cells 75 [.int .i64 now,.int .i64 c.nodes,.int .i64 c.round,.int .i64 c.phase,.int .i64 c.deadline,.dat (pd.like c.positions),.dat (sd.like c.seen),.bool c.valid,.vec a,.sl 100001 N,.dat (likeSz zd h.sizes),.dat (likeWr wd h.writes),.dat (likeEv ed h.events),.vec b]
def noM (N : Nat) (ns : List D) (now : Int) (c : Co) (pd sd mb zd wd ed ms : D) (h : Hist) : Mem :=
 (100000,noC 0 1 N now c pd sd zd wd ed h) ::
 (100001,.cells 22 ((List.range N).map fun i=>.vec (2 + i))) :: (0,.arr 28 mb) :: (1,.arr 50 ms) :: (ns.zipIdx.map fun p=>(2 + p.2,.arr 3 p.1))
def noV (N : Nat) (ns : List D) (now : Int) (c : Co) (pd sd mb zd wd ed ms : D) (h : Hist) : Mem :=
 (1,.arr 28 mb) :: (3,.arr 50 ms) :: ((ns.zipIdx.map fun p=>(4 + p.2,OBlk.arr 3 p.1)) ++ [(100000,noC 1 3 N now c pd sd zd wd ed h),(100001,.cells 22 ((List.range N).map fun i=>.vec (4 + i)))])
def ctAk : Ctrs := [(86,ctrOf ((rdHi.two rdInt).sp spAckH))]
def nkL (i : Nat) (l : D) (j : Int) (mm : Mem) : Conf := Conf.mk (SFrm.mk 70 none none [Item.inLoop (cA 70 [1,0,1,0,0]),Item.inBlock 0,Item.code (cA 70 [1,1])] (mkJ 0 [(0,.ptr 100000 0),(1,.int .i64 i),(11,.dat l),(12,.int .i64 (l.len : Int)),(13,.int .i64 j)] 0 56)) [] mm
section
variable (now i : Int) (c : Co) (pd sd mb zd wd ed ms l n0 n1 n2 : D) (h : Hist)
theorem nk10_in : execRS Try.prog ctAk [] 400 (sysN 70 56 [(0,.ptr 100000 0),(1,.int .i64 0),(2,.dat l)] (noM 1 [n0] now c pd sd mb zd wd ed ms h)) =
 Tree.leaf (Conf.mk (SFrm.mk 70 none none [Item.inLoop (cA 70 [1,0,1,0,0]),Item.inBlock 0,Item.code (cA 70 [1,1])] (mkJ 0 [(0,.ptr 100000 0),(1,.int
 .i64 0),(11,.dat l),(12,.int .i64 (↑(D.len l) : Int)),(13,.int .i64 0)] 0 56)) [] [(1,OBlk.arr 28 mb),(3,OBlk.arr 50 ms),(4,OBlk.arr 3 n0),(100000,noC
 1 3 1 now c pd sd zd wd ed h),(100001,OBlk.cells 22 [.vec 4])]) := by kernel_rfl
theorem nk20_in : execRS Try.prog ctAk [] 400 (sysN 70 56 [(0,.ptr 100000 0),(1,.int .i64 0),(2,.dat l)] (noM 2 [n0,n1] now c pd sd mb zd wd ed ms h)) =
 Tree.leaf (Conf.mk (SFrm.mk 70 none none [Item.inLoop (cA 70 [1,0,1,0,0]),Item.inBlock 0,Item.code (cA 70 [1,1])] (mkJ 0 [(0,.ptr 100000 0),(1,.int
 .i64 0),(11,.dat l),(12,.int .i64 (↑(D.len l) : Int)),(13,.int .i64 0)] 0 56)) [] [(1,OBlk.arr 28 mb),(3,OBlk.arr 50 ms),(4,OBlk.arr 3 n0),(5,OBlk.arr
 3 n1),(100000,noC 1 3 2 now c pd sd zd wd ed h),(100001,OBlk.cells 22 [.vec 4,.vec 5])]) := by kernel_rfl
theorem nk21_in : execRS Try.prog ctAk [] 400 (sysN 70 56 [(0,.ptr 100000 0),(1,.int .i64 1),(2,.dat l)] (noM 2 [n0,n1] now c pd sd mb zd wd ed ms h)) =
 Tree.leaf (Conf.mk (SFrm.mk 70 none none [Item.inLoop (cA 70 [1,0,1,0,0]),Item.inBlock 0,Item.code (cA 70 [1,1])] (mkJ 0 [(0,.ptr 100000 0),(1,.int
 .i64 1),(11,.dat l),(12,.int .i64 (↑(D.len l) : Int)),(13,.int .i64 0)] 0 56)) [] [(1,OBlk.arr 28 mb),(3,OBlk.arr 50 ms),(4,OBlk.arr 3 n0),(5,OBlk.arr
 3 n1),(100000,noC 1 3 2 now c pd sd zd wd ed h),(100001,OBlk.cells 22 [.vec 4,.vec 5])]) := by kernel_rfl
theorem nk30_in : execRS Try.prog ctAk [] 400 (sysN 70 56 [(0,.ptr 100000 0),(1,.int .i64 0),(2,.dat l)] (noM 3 [n0,n1,n2] now c pd sd mb zd wd ed ms h)) =
 Tree.leaf (Conf.mk (SFrm.mk 70 none none [Item.inLoop (cA 70 [1,0,1,0,0]),Item.inBlock 0,Item.code (cA 70 [1,1])] (mkJ 0 [(0,.ptr 100000 0),(1,.int
 .i64 0),(11,.dat l),(12,.int .i64 (↑(D.len l) : Int)),(13,.int .i64 0)] 0 56)) [] [(1,OBlk.arr 28 mb),(3,OBlk.arr 50 ms),(4,OBlk.arr 3 n0),(5,OBlk.arr
 3 n1),(6,OBlk.arr 3 n2),(100000,noC 1 3 3 now c pd sd zd wd ed h),(100001,OBlk.cells 22 [.vec 4,.vec 5,.vec 6])]) := by kernel_rfl
theorem nk31_in : execRS Try.prog ctAk [] 400 (sysN 70 56 [(0,.ptr 100000 0),(1,.int .i64 1),(2,.dat l)] (noM 3 [n0,n1,n2] now c pd sd mb zd wd ed ms h)) =
 Tree.leaf (Conf.mk (SFrm.mk 70 none none [Item.inLoop (cA 70 [1,0,1,0,0]),Item.inBlock 0,Item.code (cA 70 [1,1])] (mkJ 0 [(0,.ptr 100000 0),(1,.int
 .i64 1),(11,.dat l),(12,.int .i64 (↑(D.len l) : Int)),(13,.int .i64 0)] 0 56)) [] [(1,OBlk.arr 28 mb),(3,OBlk.arr 50 ms),(4,OBlk.arr 3 n0),(5,OBlk.arr
 3 n1),(6,OBlk.arr 3 n2),(100000,noC 1 3 3 now c pd sd zd wd ed h),(100001,OBlk.cells 22 [.vec 4,.vec 5,.vec 6])]) := by kernel_rfl
theorem nk32_in : execRS Try.prog ctAk [] 400 (sysN 70 56 [(0,.ptr 100000 0),(1,.int .i64 2),(2,.dat l)] (noM 3 [n0,n1,n2] now c pd sd mb zd wd ed ms h)) =
 Tree.leaf (Conf.mk (SFrm.mk 70 none none [Item.inLoop (cA 70 [1,0,1,0,0]),Item.inBlock 0,Item.code (cA 70 [1,1])] (mkJ 0 [(0,.ptr 100000 0),(1,.int
 .i64 2),(11,.dat l),(12,.int .i64 (↑(D.len l) : Int)),(13,.int .i64 0)] 0 56)) [] [(1,OBlk.arr 28 mb),(3,OBlk.arr 50 ms),(4,OBlk.arr 3 n0),(5,OBlk.arr
 3 n1),(6,OBlk.arr 3 n2),(100000,noC 1 3 3 now c pd sd zd wd ed h),(100001,OBlk.cells 22 [.vec 4,.vec 5,.vec 6])]) := by kernel_rfl
end
def ctSp : Ctrs := [(40,ctrOf ((rdMb.two rdInt).sp spDur)),(13,ctrOf ((rdCo.three rdInt rdInt).sp spStart)),(27,ctrOf ((rdCo.three rdInt rdMsg).sp spColl)),(24,ctrOf ((rdMb.four rdInt rdInt rdMsg).sp spObey)),(42,ctrOf ((rdMb.two rdInt).sp spRls)),(29,ctrOf ((rdCo.two rdInt).sp spExp))]
section
variable (now kk kn kw pa : Int) (c : Co) (pd sd mb zd wd ed ms l n0 n1 n2 : D) (h : Hist)
theorem sp1_in : 
 let z2 := (D.cell mb (Int.toNat (ndI kn mb)) 6)
 let z4 : Prop := (decide (D.getInt ms (Int.toNat (ndI kw ms)) 2 < 0) = false)
 let z5 : Prop := (decide (D.getInt ms (Int.toNat (ndI kw ms)) 2 < 0) = true)
 let z7 := (collectCo (CoD.co (coOf pd sd c)) now (MsgD.msg (msAt ms (Int.toNat (ndI kw ms)))))
 let z9 := (cA 33 [1,1,0,1,0,1,0,1])
 let z6 : Tree := (.leaf (Conf.mk (SFrm.mk 33 none none [Item.code z9,Item.code (cA 33 [1,1,0,1,0,1,1,1,1,1,1,1,0,1,1,1]),Item.inBlock 0,Item.code (cA 33 [1,1,1])] (mkJ 0 [(6,.lb false)] 0 298)) [] [(1,OBlk.arr 28 mb),(3,OBlk.arr 50 ms),(4,OBlk.arr 3 n0),(100000,noC 1 3 1 now c pd sd zd wd ed h),(100001,OBlk.cells 22 [.vec 4])]))
 let z10 := (Prod.snd (startCo (CoD.co (coOf pd sd c)) now pa))
 let z11 := (D.getInt ms (Int.toNat (ndI kw ms)) 2)
 let z1 := (obeyMb (MbD.mb (mbAt mb (Int.toNat z11))) now pa (MsgD.msg (msAt ms (Int.toNat (ndI kw ms)))))
 let z12 := (expireCo (CoD.co (coOf pd sd c)) now)
 let z13 := (mkJ 0 [(6,.lb true)] 0 298)
 let z14 := (mbAt mb (Int.toNat (ndI kn mb)))
 let z8 := (durMb (MbD.mb z14) (D.getInt z2 (Int.toNat (ndI kw z2)) 0))
 let z15 := (SFrm.mk 33 none none [Item.code z9] z13)
 let z3 : Tree := (.leaf (Conf.mk z15 [] [(1,OBlk.arr 28 mb),(3,OBlk.arr 50 ms),(4,OBlk.arr 3 n0),(100000,noC 1 3 1 now c pd sd zd wd ed h),(100001,OBlk.cells 22 [.vec 4])]))
 execRE Try.prog ctSp [68,70] 600 (sysN 33 298 [(0,.ptr 100000 0),(1,.agg [.int .i64 kk,.int .i64 kn,.int .i64 kw]),(2,.int .i64 pa)] (noM 1 [n0] now c pd sd mb zd wd ed ms h)) =
 Tree.all fun hs=>.need ((↑(D.len mb) : Int) ≠ 0) (.br (decide (kk = 0)) (.leaf (Conf.mk (SFrm.mk 68 none none [Item.code (cA 68 [])] (mkJ 1 [(0,.ptr 100000 0),(1,.int .i64 (ndI kn mb))] 0 78)) [SFrm.mk 33
 (some (oA 33 [1,1,0,1,0,1,0,0],[3])) (some 44) [Item.code z9,Item.inBlock 0,Item.code (cA 33 [1,1,1])] (mkJ 0 [] 0 298)] [(1,OBlk.arr 28 mb),(3,OBlk.arr 50 ms),(4,OBlk.arr 3 n0),(100000,noC 1 3 1 now c pd sd zd wd ed h),
 (100001,OBlk.cells 22 [.vec 4])])) (.br (decide (kk = 1)) (.need (0 ≤ ndI kn mb ∧ ndI kn mb < (↑(D.len mb) : Int) ∧ D.sz mb = 8) (.need (D.HasCell mb (Int.toNat (ndI kn mb)) 6 FT.slc ∧ D.sz mb = 8) (.br
 (decide ((↑(D.len z2) : Int) > 0)) (.all fun hs=>.need (0 ≤ ndI kn mb ∧ ndI kn mb < (↑(D.len mb) : Int) ∧ D.sz mb = 8) (.need (D.HasCells mb (Int.toNat (ndI kn mb)) 0 [FT.int .i64,FT.int .i64,FT.int .i64,FT.int .i64,FT.bool,FT.int .i64,FT.slc,FT.slc] ∧ D.sz mb = 8)
 (.need ((↑(D.len z2) : Int) ≠ 0) (.need (0 ≤ ndI kw z2 ∧ ndI kw z2 < (↑(D.len z2) : Int) ∧ D.sz z2 = 1) (.need (D.HasCell z2 (Int.toNat (ndI kw z2)) 0 (FT.int .i64)) (.need (MbD.Right z14) (.all fun hs_1=>.need
 (0 ≤ ndI kn mb ∧ ndI kn mb < (↑(D.len mb) : Int) ∧ D.sz mb = 8) (.need (Int.toNat (ndI kn mb) < D.len mb ∧ 8 ≤ D.sz mb ∧ D.sz mb = 8) (.br (decide (Prod.snd (Prod.snd z8) = 0)) (.leaf (Conf.mk (SFrm.mk 70 none none [Item.code
 (cA 70 [])] (mkJ 1 [(0,.ptr 100000 0),(1,.int .i64 (ndI kn mb)),(2,.dat (D.like (hs 14 2) (Prod.fst (Prod.snd z8))))] 0 56)) [SFrm.mk 33 (some (oA 33 [1,1,0,1,0,1,1,1,0,1,1,0,1,1,0],[7,8]))
 (some 90) [Item.code z9,Item.inBlock 0,Item.code (cA 33 [1,1,1])] (mkJ 0 [(86,.lb true)] 0 298)] [(1,OBlk.arr 28 (D.setCells mb (Int.toNat (ndI kn mb)) 0 (mbRow (hs 14 0) (hs 14 1) (Prod.fst z8)))),
 (3,OBlk.arr 50 ms),(4,OBlk.arr 3 n0),(100000,noC 1 3 1 now c pd sd zd wd ed h),(100001,OBlk.cells 22 [.vec 4])])) (.leaf (Conf.mk (SFrm.mk 33 none none [Item.code z9,Item.inBlock 0,Item.code (cA 33 [1,1,1])]
 (mkJ 0 [(6,.lb false)] 0 298)) [] [(1,OBlk.arr 28 (D.setCells mb (Int.toNat (ndI kn mb)) 0 (mbRow (hs 14 0) (hs 14 1) (Prod.fst z8)))),(3,OBlk.arr 50 ms),(4,OBlk.arr 3 n0),(100000,noC 1 3 1 now c pd sd zd wd ed h),
 (100001,OBlk.cells 22 [.vec 4])]))))))))))) z3))) (.br (decide (kk = 2)) (.all fun hs=>.need (D.Is Int (D.like pd (Co.positions c)) ∧ D.Is Bool (D.like sd (Co.seen c))) (.br (decide (Prod.snd z10 = 0))
 (.all fun hs_1=>.need (D.sz ms = 8 ∧ D.Fits (D.like (hs 9 2) (Prod.fst z10)) 8 ∧ (D.len ms + D.len (D.like (hs 9 2) (Prod.fst z10))) * 96 ≤ 140737488355328 ∧ D.len ms + D.len (D.like (hs 9 2) (Prod.fst z10)) ≤ 9223372036854775807)
 (.leaf (Conf.mk z15 [] [(0,OBlk.arr 50 (D.slc (D.hd (hs_1 8 0)) 8 (List.append (D.rows ms) (D.rows (D.like (hs 9 2) (Prod.fst z10)))))),(2,OBlk.arr 28 mb),(4,OBlk.arr 3 n0),(100000,noC 2 0 1 now
 (Prod.fst (startCo (CoD.co (coOf pd sd c)) now pa)) (hs 9 0) (hs 9 1) zd wd ed h),(100001,OBlk.cells 22 [.vec 4])]))) z3)) (.br (decide (kk = 3)) (.br (decide ((↑(D.len ms) : Int) = 0)) (.leaf (Conf.mk
 (SFrm.mk 33 none none [Item.code z9,Item.code (cA 33 [1,1,0,1,0,1,1,1,1,1,1,1,0,1]),Item.inBlock 0,Item.code (cAt Try.prog 33 [1,1,1])] z13) [] [(1,OBlk.arr 28 mb),(3,OBlk.arr 50 ms),
 (4,OBlk.arr 3 n0),(100000,noC 1 3 1 now c pd sd zd wd ed h),(100001,OBlk.cells 22 [.vec 4])])) (.all fun hs=>.need ((↑(D.len ms) : Int) ≠ 0) (.need (0 ≤ ndI kw ms ∧ ndI kw ms < (↑(D.len ms) : Int) ∧ D.sz ms = 8)
 (.need (D.HasCells ms (Int.toNat (ndI kw ms)) 0 [FT.int .i64,FT.int .i64,FT.int .i64,FT.int .i64,FT.int .i64,FT.int .i64,FT.slc,FT.slc] ∧ D.sz ms = 8) (.all fun hs=>.br (decide (D.getInt ms (Int.toNat
 (ndI kw ms)) 2 < 0)) (.need z5 (.need z5 (.need z5 (.need z5 (.need z5 (.need z5 (.need z5 (.need z5 (.need z5 z6))))))))) (.need z4 (.need z4 (.need z4 (.need z4 (.need z4 (.need z4 (.need z4 (.need z4
 (.need z4 (.br (decide (D.getInt ms (Int.toNat (ndI kw ms)) 2 > (↑(D.len mb) : Int))) z6 (.all fun hs=>.br (decide (D.getInt ms (Int.toNat (ndI kw ms)) 2 = (↑(D.len mb) : Int))) (.all fun hs=>.need
 (D.Is Int (D.like pd (Co.positions c)) ∧ D.Is Bool (D.like sd (Co.seen c))) (.all fun hs_1=>.need (D.sz ms = 8 ∧ D.Fits (D.like (hs 9 2) (Prod.snd z7)) 8 ∧ (D.len ms + D.len (D.like (hs 9 2) (Prod.snd z7))) * 96 ≤ 140737488355328 ∧ D.len ms + D.len
 (D.like (hs 9 2) (Prod.snd z7)) ≤ 9223372036854775807) (.leaf (Conf.mk (SFrm.mk 33 none none [Item.code z9,Item.code (cA 33 [1,1,0,1,0,1,1,1,1,1,1,1,0,1,1,1,1]),Item.inBlock 0,Item.code
 (cA 33 [1,1,1])] z13) [] [(0,OBlk.arr 50 (D.slc (D.hd (hs_1 8 0)) 8 (List.append (D.rows ms) (D.rows (D.like (hs 9 2) (Prod.snd z7)))))),(2,OBlk.arr 28 mb),(4,OBlk.arr 3 n0),(100000,noC 2 0 1 now
 (Prod.fst z7) (hs 9 0) (hs 9 1) zd wd ed h),(100001,OBlk.cells 22 [.vec 4])])))) (.all fun hs=>.need (0 ≤ D.getInt ms (Int.toNat (ndI kw ms)) 2 ∧ D.getInt ms (Int.toNat (ndI kw ms)) 2 < (↑(D.len mb) : Int) ∧ D.sz mb = 8)
 (.need (D.HasCells mb (Int.toNat z11) 0 [FT.int .i64,FT.int .i64,FT.int .i64,FT.int .i64,FT.bool,FT.int .i64,FT.slc,FT.slc] ∧ D.sz mb = 8) (.need (MbD.Right (mbAt mb (Int.toNat z11))) (.all fun hs_1=>.need
 (D.sz ms = 8 ∧ D.Fits (D.like (hs 14 3) (Prod.snd (Prod.snd z1))) 8 ∧ (D.len ms + D.len (D.like (hs 14 3) (Prod.snd (Prod.snd z1)))) * 96 ≤ 140737488355328 ∧ D.len ms + D.len (D.like (hs 14 3) (Prod.snd
 (Prod.snd z1))) ≤ 9223372036854775807) (.need (0 ≤ D.getInt ms (Int.toNat (ndI kw ms)) 2 ∧ D.getInt ms (Int.toNat (ndI kw ms)) 2 < (↑(D.len mb) : Int) ∧ D.sz mb = 8) (.need (Int.toNat z11 < D.len mb ∧ 8 ≤ D.sz mb ∧ D.sz mb = 8)
 (.leaf (Conf.mk (SFrm.mk 70 none none [Item.code (cA 70 [])] (mkJ 1 [(0,.ptr 100000 0),(1,.int .i64 z11),(2,.dat (D.like (hs 14 2) (Prod.fst (Prod.snd z1))))] 0 56)) [SFrm.mk 33 (some (oA 33 [1,1,0,1,0,1,1,1,1,1,1,1,0,1,1,1,1,1,1,0],[5]))
 (some 231) [Item.code z9,Item.inBlock 0,Item.code (cA 33 [1,1,1])] (mkJ 0 [] 0 298)] [(1,OBlk.arr 28 (D.setCells mb (Int.toNat z11) 0 (mbRow (hs 14 0) (hs 14 1) (Prod.fst z1)))),(3,OBlk.arr 50 (D.slc
 (D.hd (hs_1 13 0)) 8 (List.append (D.rows ms) (D.rows (D.like (hs 14 3) (Prod.snd (Prod.snd z1))))))),(4,OBlk.arr 3 n0),(100000,noC 1 3 1 now c pd sd zd wd ed h),(100001,OBlk.cells 22 [.vec 4])]))))))))))))))))))))))))
 (.br (decide (kk = 4)) (.need ((8 : Int) ≠ 0) (.leaf (Conf.mk z15 [] [(1,OBlk.arr 28 mb),(3,OBlk.arr 50 ms),(4,OBlk.arr 3 n0),(100000,noC 1 3 1 (IntKind.wrap .i64 (now + Int.tmod (if kw > 0 then kw else 0) 8)) c pd sd zd wd ed h),
 (100001,OBlk.cells 22 [.vec 4])]))) (.br (decide (kk = 5)) (.all fun hs=>.need (0 ≤ ndI kn mb ∧ ndI kn mb < (↑(D.len mb) : Int) ∧ D.sz mb = 8) (.need (D.HasCells mb (Int.toNat (ndI kn mb)) 0 [FT.int .i64,FT.int .i64,FT.int .i64,FT.int .i64,FT.bool,FT.int .i64,FT.slc,FT.slc] ∧ D.sz mb = 8)
 (.need (MbD.Right z14) (.all fun hs_1=>.need (0 ≤ ndI kn mb ∧ ndI kn mb < (↑(D.len mb) : Int) ∧ D.sz mb = 8) (.need (Int.toNat (ndI kn mb) < D.len mb ∧ 8 ≤ D.sz mb ∧ D.sz mb = 8) (.leaf (Conf.mk (SFrm.mk 70 none none [Item.code
 (cA 70 [])] (mkJ 1 [(0,.ptr 100000 0),(1,.int .i64 (ndI kn mb)),(2,.dat (D.like (hs 11 2) (Prod.snd (relMb (MbD.mb z14) now))))] 0 56)) [SFrm.mk 33 (some (oA 33 [1,1,0,1,0,1,1,1,1,1,1,1,1,1,1,1,0,1,1,0],[4]))
 (some 270) [Item.code z9,Item.inBlock 0,Item.code (cA 33 [1,1,1])] (mkJ 0 [] 0 298)] [(1,OBlk.arr 28 (D.setCells mb (Int.toNat (ndI kn mb)) 0 (mbRow (hs 11 0) (hs 11 1) (Prod.fst (relMb (MbD.mb z14) now))))),
 (3,OBlk.arr 50 ms),(4,OBlk.arr 3 n0),(100000,noC 1 3 1 now c pd sd zd wd ed h),(100001,OBlk.cells 22 [.vec 4])]))))))) (.br (decide (kk = 6)) (.all fun hs=>.need (D.Is Int (D.like pd (Co.positions c)) ∧ D.Is Bool
 (D.like sd (Co.seen c))) (.all fun hs_1=>.need (D.sz ms = 8 ∧ D.Fits (D.like (hs 8 2) (Prod.snd z12)) 8 ∧ (D.len ms + D.len (D.like (hs 8 2) (Prod.snd z12))) * 96 ≤ 140737488355328 ∧ D.len ms + D.len
 (D.like (hs 8 2) (Prod.snd z12)) ≤ 9223372036854775807) (.leaf (Conf.mk (SFrm.mk 33 none none [Item.code (cAt Try.prog 33 [1,1,0,1,0,1,0,1])] z13) [] [(0,OBlk.arr 50 (D.slc (D.hd (hs_1 8 0)) 8
 (List.append (D.rows ms) (D.rows (D.like (hs 8 2) (Prod.snd z12)))))),(2,OBlk.arr 28 mb),(4,OBlk.arr 3 n0),(100000,noC 2 0 1 now (Prod.fst z12) (hs 8 0) (hs 8 1) zd wd ed h),(100001,OBlk.cells 22 [.vec 4])])))) z3))))))) := by
 intros; kernel_rfl
end
def backN (g : SFrm) (mm : Mem) : Conf := ⟨{ g with tmps := putS g.tmps g.await (.lb true),await := none },[],mm⟩
def spFi : SFrm := SFrm.mk 33 (some (oA 33 [1,1,0,1,0,1,0,0],[3])) (some 44) [Item.code (cA 33 [1,1,0,1,0,1,0,1]),Item.inBlock 0,Item.code (cA 33 [1,1,1])] (mkJ 0 [] 0 298)
def spFd : SFrm := SFrm.mk 33 (some (oA 33 [1,1,0,1,0,1,1,1,0,1,1,0,1,1,0],[7,8])) (some 90) [Item.code (cA 33 [1,1,0,1,0,1,0,1]),Item.inBlock 0,Item.code (cA 33 [1,1,1])] (mkJ 0 [(86,.lb true)] 0 298)
def spFo : SFrm := SFrm.mk 33 (some (oA 33 [1,1,0,1,0,1,1,1,1,1,1,1,0,1,1,1,1,1,1,0],[5])) (some 231) [Item.code (cA 33 [1,1,0,1,0,1,0,1]),Item.inBlock 0,Item.code (cA 33 [1,1,1])] (mkJ 0 [] 0 298)
def spFr : SFrm := SFrm.mk 33 (some (oA 33 [1,1,0,1,0,1,1,1,1,1,1,1,1,1,1,1,0,1,1,0],[4])) (some 270) [Item.code (cA 33 [1,1,0,1,0,1,0,1]),Item.inBlock 0,Item.code (cA 33 [1,1,1])] (mkJ 0 [] 0 298)
section
variable (now kk kn kw pa : Int) (c : Co) (pd sd mb zd wd ed ms l n0 n1 n2 : D) (h : Hist)
theorem spi1 : execRS Try.prog ctSp [] 400 (backN spFi (noM 1 [n0] now c pd sd mb zd wd ed ms h)) =
 Tree.leaf (Conf.mk (SFrm.mk 33 none none [Item.code (cA 33 [1,1,0,1,0,1,0,1]),Item.inBlock 0,Item.code (cA 33 [1,1,1])] (mkJ 0 [(6,.lb true)] 0 298)) []
 [(1,OBlk.arr 28 mb),(3,OBlk.arr 50 ms),(4,OBlk.arr 3 n0),(100000,noC 1 3 1 now c pd sd zd wd ed h),(100001,OBlk.cells 22 [.vec 4])]) := by kernel_rfl
theorem spi2 : execRS Try.prog ctSp [] 400 (backN spFi (noM 2 [n0,n1] now c pd sd mb zd wd ed ms h)) =
 Tree.leaf (Conf.mk (SFrm.mk 33 none none [Item.code (cA 33 [1,1,0,1,0,1,0,1]),Item.inBlock 0,Item.code (cA 33 [1,1,1])] (mkJ 0 [(6,.lb true)] 0 298)) []
 [(1,OBlk.arr 28 mb),(3,OBlk.arr 50 ms),(4,OBlk.arr 3 n0),(5,OBlk.arr 3 n1),(100000,noC 1 3 2 now c pd sd zd wd ed h),(100001,OBlk.cells 22 [.vec 4,.vec 5])]) := by kernel_rfl
theorem spi3 : execRS Try.prog ctSp [] 400 (backN spFi (noM 3 [n0,n1,n2] now c pd sd mb zd wd ed ms h)) =
 Tree.leaf (Conf.mk (SFrm.mk 33 none none [Item.code (cA 33 [1,1,0,1,0,1,0,1]),Item.inBlock 0,Item.code (cA 33 [1,1,1])] (mkJ 0 [(6,.lb true)] 0 298)) []
 [(1,OBlk.arr 28 mb),(3,OBlk.arr 50 ms),(4,OBlk.arr 3 n0),(5,OBlk.arr 3 n1),(6,OBlk.arr 3 n2),(100000,noC 1 3 3 now c pd sd zd wd ed h),(100001,OBlk.cells 22 [.vec 4,.vec 5,
 .vec 6])]) := by kernel_rfl
theorem spd1 : execRS Try.prog ctSp [] 400 (backN spFd (noM 1 [n0] now c pd sd mb zd wd ed ms h)) =
 Tree.leaf (Conf.mk (SFrm.mk 33 none none [Item.code (cA 33 [1,1,0,1,0,1,0,1]),Item.inBlock 0,Item.code (cA 33 [1,1,1])] (mkJ 0 [(6,.lb true)] 0 298)) []
 [(1,OBlk.arr 28 mb),(3,OBlk.arr 50 ms),(4,OBlk.arr 3 n0),(100000,noC 1 3 1 now c pd sd zd wd ed h),(100001,OBlk.cells 22 [.vec 4])]) := by kernel_rfl
theorem spd2 : execRS Try.prog ctSp [] 400 (backN spFd (noM 2 [n0,n1] now c pd sd mb zd wd ed ms h)) =
 Tree.leaf (Conf.mk (SFrm.mk 33 none none [Item.code (cA 33 [1,1,0,1,0,1,0,1]),Item.inBlock 0,Item.code (cA 33 [1,1,1])] (mkJ 0 [(6,.lb true)] 0 298)) []
 [(1,OBlk.arr 28 mb),(3,OBlk.arr 50 ms),(4,OBlk.arr 3 n0),(5,OBlk.arr 3 n1),(100000,noC 1 3 2 now c pd sd zd wd ed h),(100001,OBlk.cells 22 [.vec 4,.vec 5])]) := by kernel_rfl
theorem spd3 : execRS Try.prog ctSp [] 400 (backN spFd (noM 3 [n0,n1,n2] now c pd sd mb zd wd ed ms h)) =
 Tree.leaf (Conf.mk (SFrm.mk 33 none none [Item.code (cA 33 [1,1,0,1,0,1,0,1]),Item.inBlock 0,Item.code (cA 33 [1,1,1])] (mkJ 0 [(6,.lb true)] 0 298)) []
 [(1,OBlk.arr 28 mb),(3,OBlk.arr 50 ms),(4,OBlk.arr 3 n0),(5,OBlk.arr 3 n1),(6,OBlk.arr 3 n2),(100000,noC 1 3 3 now c pd sd zd wd ed h),(100001,OBlk.cells 22 [.vec 4,.vec 5,
 .vec 6])]) := by kernel_rfl
theorem spo1 : execRS Try.prog ctSp [] 400 (backN spFo (noM 1 [n0] now c pd sd mb zd wd ed ms h)) =
 Tree.leaf (Conf.mk (SFrm.mk 33 none none [Item.code (cA 33 [1,1,0,1,0,1,0,1]),Item.inBlock 0,Item.code (cA 33 [1,1,1])] (mkJ 0 [(6,.lb true)] 0 298)) []
 [(1,OBlk.arr 28 mb),(3,OBlk.arr 50 ms),(4,OBlk.arr 3 n0),(100000,noC 1 3 1 now c pd sd zd wd ed h),(100001,OBlk.cells 22 [.vec 4])]) := by kernel_rfl
theorem spo2 : execRS Try.prog ctSp [] 400 (backN spFo (noM 2 [n0,n1] now c pd sd mb zd wd ed ms h)) =
 Tree.leaf (Conf.mk (SFrm.mk 33 none none [Item.code (cA 33 [1,1,0,1,0,1,0,1]),Item.inBlock 0,Item.code (cA 33 [1,1,1])] (mkJ 0 [(6,.lb true)] 0 298)) []
 [(1,OBlk.arr 28 mb),(3,OBlk.arr 50 ms),(4,OBlk.arr 3 n0),(5,OBlk.arr 3 n1),(100000,noC 1 3 2 now c pd sd zd wd ed h),(100001,OBlk.cells 22 [.vec 4,.vec 5])]) := by kernel_rfl
theorem spo3 : execRS Try.prog ctSp [] 400 (backN spFo (noM 3 [n0,n1,n2] now c pd sd mb zd wd ed ms h)) =
 Tree.leaf (Conf.mk (SFrm.mk 33 none none [Item.code (cA 33 [1,1,0,1,0,1,0,1]),Item.inBlock 0,Item.code (cA 33 [1,1,1])] (mkJ 0 [(6,.lb true)] 0 298)) []
 [(1,OBlk.arr 28 mb),(3,OBlk.arr 50 ms),(4,OBlk.arr 3 n0),(5,OBlk.arr 3 n1),(6,OBlk.arr 3 n2),(100000,noC 1 3 3 now c pd sd zd wd ed h),(100001,OBlk.cells 22 [.vec 4,.vec 5,
 .vec 6])]) := by kernel_rfl
theorem spr1 : execRS Try.prog ctSp [] 400 (backN spFr (noM 1 [n0] now c pd sd mb zd wd ed ms h)) =
 Tree.leaf (Conf.mk (SFrm.mk 33 none none [Item.code (cA 33 [1,1,0,1,0,1,0,1]),Item.inBlock 0,Item.code (cA 33 [1,1,1])] (mkJ 0 [(6,.lb true)] 0 298)) []
 [(1,OBlk.arr 28 mb),(3,OBlk.arr 50 ms),(4,OBlk.arr 3 n0),(100000,noC 1 3 1 now c pd sd zd wd ed h),(100001,OBlk.cells 22 [.vec 4])]) := by kernel_rfl
theorem spr2 : execRS Try.prog ctSp [] 400 (backN spFr (noM 2 [n0,n1] now c pd sd mb zd wd ed ms h)) =
 Tree.leaf (Conf.mk (SFrm.mk 33 none none [Item.code (cA 33 [1,1,0,1,0,1,0,1]),Item.inBlock 0,Item.code (cA 33 [1,1,1])] (mkJ 0 [(6,.lb true)] 0 298)) []
 [(1,OBlk.arr 28 mb),(3,OBlk.arr 50 ms),(4,OBlk.arr 3 n0),(5,OBlk.arr 3 n1),(100000,noC 1 3 2 now c pd sd zd wd ed h),(100001,OBlk.cells 22 [.vec 4,.vec 5])]) := by kernel_rfl
theorem spr3 : execRS Try.prog ctSp [] 400 (backN spFr (noM 3 [n0,n1,n2] now c pd sd mb zd wd ed ms h)) =
 Tree.leaf (Conf.mk (SFrm.mk 33 none none [Item.code (cA 33 [1,1,0,1,0,1,0,1]),Item.inBlock 0,Item.code (cA 33 [1,1,1])] (mkJ 0 [(6,.lb true)] 0 298)) []
 [(1,OBlk.arr 28 mb),(3,OBlk.arr 50 ms),(4,OBlk.arr 3 n0),(5,OBlk.arr 3 n1),(6,OBlk.arr 3 n2),(100000,noC 1 3 3 now c pd sd zd wd ed h),(100001,OBlk.cells 22 [.vec 4,.vec 5,
 .vec 6])]) := by kernel_rfl
end
def ctGr : Ctrs := [(32,ctrOf (rdNone.sp spTrue)),(21,ctrOf (rdCo.one.sp spRes)),(34,ctrOf ((rdD.two rdInt).sp spHas21))]
def tbF (pa : Int) (l : D) : SFrm := SFrm.mk 6 (some (oA 6 [1,0],[5,6,7,8,9])) (some 26) [Item.code (cA 6 [1,1])] (mkJ 0 [(1,.int .u8 pa),(2,.dat l)] 0 133)
def backW (v : SV) (g : SFrm) (mm : Mem) : Conf := ⟨{ g with tmps := putS g.tmps g.await v,await := none },[],mm⟩
section
variable (now pa : Int) (c : Co) (pd sd mb zd wd ed ms l n0 n1 n2 : D) (h : Hist)
theorem tb1_k0 : execRE Try.prog ctGr [33] 400 (backW (.tup [.ptr 100000 0,.lb true]) (tbF pa l) (noM 1 [n0] now c pd sd mb zd wd ed ms h)) =
 Tree.br (decide ((↑(D.len l) : Int) > 60)) (.leaf (Conf.mk (SFrm.mk 6 none none [Item.code (cA 6 [1,1,0,1,0,1]),Item.code (cA 6 [1,1,1])] (mkJ 0 [(6,.lb
 true)] 0 133)) [] [(1,OBlk.arr 28 mb),(3,OBlk.arr 50 ms),(4,OBlk.arr 3 n0),(100000,noC 1 3 1 now c pd sd zd wd ed h),(100001,OBlk.cells 22 [.vec 4])])) (.leaf (Conf.mk
 (SFrm.mk 6 none none [Item.inLoop (cA 6 [1,1,1,1,0,1,0,0]),Item.inBlock 0,Item.code (cA 6 [1,1,1,1,1])] (mkJ 0 [(1,.int .u8 pa),(7,.ptr 100000
 0),(9,.nils),(40,.dat l),(41,.int .i64 (↑(D.len l) : Int)),(42,.int .i64 0)] 0 133)) [] [(1,OBlk.arr 28 mb),(3,OBlk.arr 50 ms),(4,OBlk.arr 3 n0),(100000,
 noC 1 3 1 now c pd sd zd wd ed h),(100001,OBlk.cells 22 [.vec 4])])) := by kernel_rfl
theorem tb2_k0 : execRE Try.prog ctGr [33] 400 (backW (.tup [.ptr 100000 0,.lb true]) (tbF pa l) (noM 2 [n0,n1] now c pd sd mb zd wd ed ms h)) =
 Tree.br (decide ((↑(D.len l) : Int) > 60)) (.leaf (Conf.mk (SFrm.mk 6 none none [Item.code (cA 6 [1,1,0,1,0,1]),Item.code (cA 6 [1,1,1])] (mkJ 0 [(6,.lb
 true)] 0 133)) [] [(1,OBlk.arr 28 mb),(3,OBlk.arr 50 ms),(4,OBlk.arr 3 n0),(5,OBlk.arr 3 n1),(100000,noC 1 3 2 now c pd sd zd wd ed h),(100001,OBlk.cells 22 [.vec 4,.vec
 5])])) (.leaf (Conf.mk (SFrm.mk 6 none none [Item.inLoop (cA 6 [1,1,1,1,0,1,0,0]),Item.inBlock 0,Item.code (cA 6 [1,1,1,1,1])] (mkJ 0 [(1,.int
 .u8 pa),(7,.ptr 100000 0),(9,.nils),(40,.dat l),(41,.int .i64 (↑(D.len l) : Int)),(42,.int .i64 0)] 0 133)) [] [(1,OBlk.arr 28 mb),(3,OBlk.arr 50
 ms),(4,OBlk.arr 3 n0),(5,OBlk.arr 3 n1),(100000,noC 1 3 2 now c pd sd zd wd ed h),(100001,OBlk.cells 22 [.vec 4,.vec 5])])) := by kernel_rfl
theorem tb3_k0 : execRE Try.prog ctGr [33] 400 (backW (.tup [.ptr 100000 0,.lb true]) (tbF pa l) (noM 3 [n0,n1,n2] now c pd sd mb zd wd ed ms h)) =
 Tree.br (decide ((↑(D.len l) : Int) > 60)) (.leaf (Conf.mk (SFrm.mk 6 none none [Item.code (cA 6 [1,1,0,1,0,1]),Item.code (cA 6 [1,1,1])] (mkJ 0 [(6,.lb
 true)] 0 133)) [] [(1,OBlk.arr 28 mb),(3,OBlk.arr 50 ms),(4,OBlk.arr 3 n0),(5,OBlk.arr 3 n1),(6,OBlk.arr 3 n2),(100000,noC 1 3 3 now c pd sd zd wd ed h),(100001,OBlk.cells 22
 [.vec 4,.vec 5,.vec 6])])) (.leaf (Conf.mk (SFrm.mk 6 none none [Item.inLoop (cA 6 [1,1,1,1,0,1,0,0]),Item.inBlock 0,Item.code (cA 6 [1,1,1,1,
 1])] (mkJ 0 [(1,.int .u8 pa),(7,.ptr 100000 0),(9,.nils),(40,.dat l),(41,.int .i64 (↑(D.len l) : Int)),(42,.int .i64 0)] 0 133)) [] [(1,OBlk.arr
 28 mb),(3,OBlk.arr 50 ms),(4,OBlk.arr 3 n0),(5,OBlk.arr 3 n1),(6,OBlk.arr 3 n2),(100000,noC 1 3 3 now c pd sd zd wd ed h),(100001,OBlk.cells 22 [.vec 4,.vec 5,.vec 6])])) := by kernel_rfl
end
def gaL (l : D) (pa : Int) (last : D) (j : Int) (mm : Mem) : Conf := Conf.mk (SFrm.mk 6 none none [Item.inLoop (cA 6 [1,1,1,1,0,1,0,0]),Item.inBlock 0,Item.code (cA 6 [1,1,1,1,1])] (mkJ 0 [(1,.int .u8 pa),(7,.ptr 100000 0),(9,.dat last),(40,.dat l),(41,.int .i64 (l.len : Int)),(42,.int .i64 j)] 0 133)) [] mm
section
variable (now pa j : Int) (c : Co) (pd sd mb zd wd ed ms l last n0 n1 n2 : D) (h : Hist)
theorem ga1_go : execRE Try.prog ctGr [33] 400 (unroll (gaL l pa last j (noM 1 [n0] now c pd sd mb zd wd ed ms h))) =
 Tree.br (decide (j < (↑(D.len l) : Int))) (.need (0 ≤ j ∧ j < (↑(D.len l) : Int) ∧ D.sz l = 3) (.need (D.HasCells l (Int.toNat j) 0 [FT.int .i64,FT.int .i64,FT.int
 .i64]) (.need ((20 : Int) ≠ 0) (.leaf (Conf.mk (SFrm.mk 33 none none [Item.code (cA 33 [])] (mkJ 1 [(0,.ptr 100000 0),(1,.agg [.int .i64 (D.getInt l
 (Int.toNat j) 0),.int .i64 (D.getInt l (Int.toNat j) 1),.int .i64 (D.getInt l (Int.toNat j) 2)]),(2,.int .i64 (IntKind.wrap .i64 (IntKind.wrap
 .i64 (Int.tmod pa 20) + 1)))] 0 298)) [SFrm.mk 6 (some (oA 6 [1,1,1,1,0,1,0,0,1,1,0,0,1,0,0],[7])) (some 52) [Item.code (cA 6 [1,1,1,1,0,1,
 0,0,1,1,0,0,1,0,1]),Item.code (cA 6 [1,1,1,1,0,1,0,0,1,1,0,0,1,1]),Item.inBlock 1,Item.code (cA 6 [1,1,1,1,0,1,0,0,1,1,1]),Item.inLoop
 (cA 6 [1,1,1,1,0,1,0,0]),Item.inBlock 0,Item.code (cA 6 [1,1,1,1,1])] (mkJ 0 [(1,.int .u8 pa),(7,.ptr 100000 0),(9,.dat last),(40,.dat
 l),(41,.int .i64 (↑(D.len l) : Int)),(42,.int .i64 j)] 0 133)] [(1,OBlk.arr 28 mb),(3,OBlk.arr 50 ms),(4,OBlk.arr 3 n0),(100000,noC 1 3 1 now c pd sd zd wd ed
 h),(100001,OBlk.cells 22 [.vec 4])]))))) (.leaf (Conf.mk (SFrm.mk 6 none none [Item.code (cA 6 [1,1,0,1,0,1])] (mkJ 0 [(6,.lb true)] 0 133)) [] [(1,OBlk.arr 28
 mb),(3,OBlk.arr 50 ms),(4,OBlk.arr 3 n0),(100000,noC 1 3 1 now c pd sd zd wd ed h),(100001,OBlk.cells 22 [.vec 4])])) := by kernel_rfl
theorem ga2_go : execRE Try.prog ctGr [33] 400 (unroll (gaL l pa last j (noM 2 [n0,n1] now c pd sd mb zd wd ed ms h))) =
 Tree.br (decide (j < (↑(D.len l) : Int))) (.need (0 ≤ j ∧ j < (↑(D.len l) : Int) ∧ D.sz l = 3) (.need (D.HasCells l (Int.toNat j) 0 [FT.int .i64,FT.int .i64,FT.int
 .i64]) (.need ((20 : Int) ≠ 0) (.leaf (Conf.mk (SFrm.mk 33 none none [Item.code (cA 33 [])] (mkJ 1 [(0,.ptr 100000 0),(1,.agg [.int .i64 (D.getInt l
 (Int.toNat j) 0),.int .i64 (D.getInt l (Int.toNat j) 1),.int .i64 (D.getInt l (Int.toNat j) 2)]),(2,.int .i64 (IntKind.wrap .i64 (IntKind.wrap
 .i64 (Int.tmod pa 20) + 1)))] 0 298)) [SFrm.mk 6 (some (oA 6 [1,1,1,1,0,1,0,0,1,1,0,0,1,0,0],[7])) (some 52) [Item.code (cA 6 [1,1,1,1,0,1,
 0,0,1,1,0,0,1,0,1]),Item.code (cA 6 [1,1,1,1,0,1,0,0,1,1,0,0,1,1]),Item.inBlock 1,Item.code (cA 6 [1,1,1,1,0,1,0,0,1,1,1]),Item.inLoop
 (cA 6 [1,1,1,1,0,1,0,0]),Item.inBlock 0,Item.code (cA 6 [1,1,1,1,1])] (mkJ 0 [(1,.int .u8 pa),(7,.ptr 100000 0),(9,.dat last),(40,.dat
 l),(41,.int .i64 (↑(D.len l) : Int)),(42,.int .i64 j)] 0 133)] [(1,OBlk.arr 28 mb),(3,OBlk.arr 50 ms),(4,OBlk.arr 3 n0),(5,OBlk.arr 3 n1),(100000,noC 1 3 2 now
 c pd sd zd wd ed h),(100001,OBlk.cells 22 [.vec 4,.vec 5])]))))) (.leaf (Conf.mk (SFrm.mk 6 none none [Item.code (cA 6 [1,1,0,1,0,1])] (mkJ 0 [(6,.lb true)] 0
 133)) [] [(1,OBlk.arr 28 mb),(3,OBlk.arr 50 ms),(4,OBlk.arr 3 n0),(5,OBlk.arr 3 n1),(100000,noC 1 3 2 now c pd sd zd wd ed h),(100001,OBlk.cells 22 [.vec 4,.vec 5])])) := by kernel_rfl
theorem ga3_go : execRE Try.prog ctGr [33] 400 (unroll (gaL l pa last j (noM 3 [n0,n1,n2] now c pd sd mb zd wd ed ms h))) =
 Tree.br (decide (j < (↑(D.len l) : Int))) (.need (0 ≤ j ∧ j < (↑(D.len l) : Int) ∧ D.sz l = 3) (.need (D.HasCells l (Int.toNat j) 0 [FT.int .i64,FT.int .i64,FT.int
 .i64]) (.need ((20 : Int) ≠ 0) (.leaf (Conf.mk (SFrm.mk 33 none none [Item.code (cA 33 [])] (mkJ 1 [(0,.ptr 100000 0),(1,.agg [.int .i64 (D.getInt l
 (Int.toNat j) 0),.int .i64 (D.getInt l (Int.toNat j) 1),.int .i64 (D.getInt l (Int.toNat j) 2)]),(2,.int .i64 (IntKind.wrap .i64 (IntKind.wrap
 .i64 (Int.tmod pa 20) + 1)))] 0 298)) [SFrm.mk 6 (some (oA 6 [1,1,1,1,0,1,0,0,1,1,0,0,1,0,0],[7])) (some 52) [Item.code (cA 6 [1,1,1,1,0,1,
 0,0,1,1,0,0,1,0,1]),Item.code (cA 6 [1,1,1,1,0,1,0,0,1,1,0,0,1,1]),Item.inBlock 1,Item.code (cA 6 [1,1,1,1,0,1,0,0,1,1,1]),Item.inLoop
 (cA 6 [1,1,1,1,0,1,0,0]),Item.inBlock 0,Item.code (cA 6 [1,1,1,1,1])] (mkJ 0 [(1,.int .u8 pa),(7,.ptr 100000 0),(9,.dat last),(40,.dat
 l),(41,.int .i64 (↑(D.len l) : Int)),(42,.int .i64 j)] 0 133)] [(1,OBlk.arr 28 mb),(3,OBlk.arr 50 ms),(4,OBlk.arr 3 n0),(5,OBlk.arr 3 n1),(6,OBlk.arr 3 n2),
 (100000,noC 1 3 3 now c pd sd zd wd ed h),(100001,OBlk.cells 22 [.vec 4,.vec 5,.vec 6])]))))) (.leaf (Conf.mk (SFrm.mk 6 none none [Item.code (cA 6 [1,1,0,1,0,
 1])] (mkJ 0 [(6,.lb true)] 0 133)) [] [(1,OBlk.arr 28 mb),(3,OBlk.arr 50 ms),(4,OBlk.arr 3 n0),(5,OBlk.arr 3 n1),(6,OBlk.arr 3 n2),(100000,noC 1 3 3 now c pd sd zd wd ed h),
 (100001,OBlk.cells 22 [.vec 4,.vec 5,.vec 6])])) := by kernel_rfl
end
def gaF (l : D) (pa : Int) (last : D) (j : Int) : SFrm := SFrm.mk 6 (some (oA 6 [1,1,1,1,0,1,0,0,1,1,0,0,1,0,0],[7])) (some 52) [Item.code (cA 6 [1,1,1,1,0,1,0,0,1,1,0,0,1,0,1]),Item.code (cA 6 [1,1,1,1,0,1,0,0,1,1,0,0,1,1]),Item.inBlock 1,Item.code (cA 6 [1,1,1,1,0,1,0,0,1,1,1]),Item.inLoop (cA 6 [1,1,1,1,0,1,0,0]),Item.inBlock 0,Item.code (cA 6 [1,1,1,1,1])] (mkJ 0 [(1,.int .u8 pa),(7,.ptr 100000 0),(9,.dat last),(40,.dat l),(41,.int .i64 (l.len : Int)),(42,.int .i64 j)] 0 133)
section
variable (now pa j : Int) (c : Co) (pd sd mb zd wd ed ms l last n0 n1 n2 : D) (h : Hist)
theorem ga1_k1 : execRE Try.prog ctGr [33] 400 (backN (gaF l pa last j) (noM 1 [n0] now c pd sd mb zd wd ed ms h)) =
 Tree.need (D.Is Int (D.like pd (Co.positions c)) ∧ D.Is Bool (D.like sd (Co.seen c))) (.all fun hs=>.br (Prod.snd (resultCo (CoD.co (coOf pd sd c)))) (.leaf (Conf.mk (SFrm.mk 6
 none none [Item.inLoop (cA 6 [1,1,1,1,0,1,0,0,1,1,0,0,1,1,0,1,1,0,0,1,0,0]),Item.inBlock 2,Item.code (cA 6 [1,1,1,1,0,1,0,0,1,1,0,0,1,
 1,0,1,1,0,1]),Item.code (cA 6 [1,1,1,1,0,1,0,0,1,1,0,0,1,1,1]),Item.inBlock 1,Item.code (cA 6 [1,1,1,1,0,1,0,0,1,1,1]),Item.inLoop (cAt
 Try.prog 6 [1,1,1,1,0,1,0,0]),Item.inBlock 0,Item.code (cA 6 [1,1,1,1,1])] (mkJ 0 [(1,.int .u8 pa),(7,.ptr 100000 0),(9,.dat last),(12,.dat
 (D.like (hs 0 0) (Prod.fst (resultCo (CoD.co (coOf pd sd c)))))),(40,.dat l),(41,.int .i64 (↑(D.len l) : Int)),(42,.int .i64 j),(64,.int .i64 (↑(D.len
 last) : Int)),(65,.int .i64 0)] 0 133)) [] [(1,OBlk.arr 28 mb),(3,OBlk.arr 50 ms),(4,OBlk.arr 3 n0),(100000,noC 1 3 1 now c pd sd zd wd ed h),(100001,OBlk.cells 22
 [.vec 4])])) (.leaf (Conf.mk (SFrm.mk 6 none none [Item.inLoop (cA 6 [1,1,1,1,0,1,0,0,1,1,0,0,1,1,1,1,0,0]),Item.inBlock 4,Item.inBlock 1,Item.code (cAt
 Try.prog 6 [1,1,1,1,0,1,0,0,1,1,1]),Item.inLoop (cA 6 [1,1,1,1,0,1,0,0]),Item.inBlock 0,Item.code (cA 6 [1,1,1,1,1])] (mkJ 0 [(1,.int
 .u8 pa),(7,.ptr 100000 0),(9,.dat last),(40,.dat l),(41,.int .i64 (↑(D.len l) : Int)),(42,.int .i64 j),(88,.vec 1),(89,.int .i64
 (↑(D.len mb) : Int)),(90,.int .i64 0)] 0 133)) [] [(1,OBlk.arr 28 mb),(3,OBlk.arr 50 ms),(4,OBlk.arr 3 n0),(100000,noC 1 3 1 now c pd sd zd wd ed h),(100001,OBlk.cells 22
 [.vec 4])]))) := by kernel_rfl
theorem ga2_k1 : execRE Try.prog ctGr [33] 400 (backN (gaF l pa last j) (noM 2 [n0,n1] now c pd sd mb zd wd ed ms h)) =
 Tree.need (D.Is Int (D.like pd (Co.positions c)) ∧ D.Is Bool (D.like sd (Co.seen c))) (.all fun hs=>.br (Prod.snd (resultCo (CoD.co (coOf pd sd c)))) (.leaf (Conf.mk (SFrm.mk 6
 none none [Item.inLoop (cA 6 [1,1,1,1,0,1,0,0,1,1,0,0,1,1,0,1,1,0,0,1,0,0]),Item.inBlock 2,Item.code (cA 6 [1,1,1,1,0,1,0,0,1,1,0,0,1,
 1,0,1,1,0,1]),Item.code (cA 6 [1,1,1,1,0,1,0,0,1,1,0,0,1,1,1]),Item.inBlock 1,Item.code (cA 6 [1,1,1,1,0,1,0,0,1,1,1]),Item.inLoop (cAt
 Try.prog 6 [1,1,1,1,0,1,0,0]),Item.inBlock 0,Item.code (cA 6 [1,1,1,1,1])] (mkJ 0 [(1,.int .u8 pa),(7,.ptr 100000 0),(9,.dat last),(12,.dat
 (D.like (hs 0 0) (Prod.fst (resultCo (CoD.co (coOf pd sd c)))))),(40,.dat l),(41,.int .i64 (↑(D.len l) : Int)),(42,.int .i64 j),(64,.int .i64 (↑(D.len
 last) : Int)),(65,.int .i64 0)] 0 133)) [] [(1,OBlk.arr 28 mb),(3,OBlk.arr 50 ms),(4,OBlk.arr 3 n0),(5,OBlk.arr 3 n1),(100000,noC 1 3 2 now c pd sd zd wd ed h),(100001,
 OBlk.cells 22 [.vec 4,.vec 5])])) (.leaf (Conf.mk (SFrm.mk 6 none none [Item.inLoop (cA 6 [1,1,1,1,0,1,0,0,1,1,0,0,1,1,1,1,0,0]),Item.inBlock 4,
 Item.inBlock 1,Item.code (cA 6 [1,1,1,1,0,1,0,0,1,1,1]),Item.inLoop (cA 6 [1,1,1,1,0,1,0,0]),Item.inBlock 0,Item.code (cA 6 [1,1,1,1,
 1])] (mkJ 0 [(1,.int .u8 pa),(7,.ptr 100000 0),(9,.dat last),(40,.dat l),(41,.int .i64 (↑(D.len l) : Int)),(42,.int .i64 j),(88,.vec 1),(89,
 .int .i64 (↑(D.len mb) : Int)),(90,.int .i64 0)] 0 133)) [] [(1,OBlk.arr 28 mb),(3,OBlk.arr 50 ms),(4,OBlk.arr 3 n0),(5,OBlk.arr 3 n1),(100000,noC 1 3 2 now c pd
 sd zd wd ed h),(100001,OBlk.cells 22 [.vec 4,.vec 5])]))) := by kernel_rfl
theorem ga3_k1 : execRE Try.prog ctGr [33] 400 (backN (gaF l pa last j) (noM 3 [n0,n1,n2] now c pd sd mb zd wd ed ms h)) =
 Tree.need (D.Is Int (D.like pd (Co.positions c)) ∧ D.Is Bool (D.like sd (Co.seen c))) (.all fun hs=>.br (Prod.snd (resultCo (CoD.co (coOf pd sd c)))) (.leaf (Conf.mk (SFrm.mk 6
 none none [Item.inLoop (cA 6 [1,1,1,1,0,1,0,0,1,1,0,0,1,1,0,1,1,0,0,1,0,0]),Item.inBlock 2,Item.code (cA 6 [1,1,1,1,0,1,0,0,1,1,0,0,1,
 1,0,1,1,0,1]),Item.code (cA 6 [1,1,1,1,0,1,0,0,1,1,0,0,1,1,1]),Item.inBlock 1,Item.code (cA 6 [1,1,1,1,0,1,0,0,1,1,1]),Item.inLoop (cAt
 Try.prog 6 [1,1,1,1,0,1,0,0]),Item.inBlock 0,Item.code (cA 6 [1,1,1,1,1])] (mkJ 0 [(1,.int .u8 pa),(7,.ptr 100000 0),(9,.dat last),(12,.dat
 (D.like (hs 0 0) (Prod.fst (resultCo (CoD.co (coOf pd sd c)))))),(40,.dat l),(41,.int .i64 (↑(D.len l) : Int)),(42,.int .i64 j),(64,.int .i64 (↑(D.len
 last) : Int)),(65,.int .i64 0)] 0 133)) [] [(1,OBlk.arr 28 mb),(3,OBlk.arr 50 ms),(4,OBlk.arr 3 n0),(5,OBlk.arr 3 n1),(6,OBlk.arr 3 n2),(100000,noC 1 3 3 now c pd sd zd
 wd ed h),(100001,OBlk.cells 22 [.vec 4,.vec 5,.vec 6])])) (.leaf (Conf.mk (SFrm.mk 6 none none [Item.inLoop (cA 6 [1,1,1,1,0,1,0,0,1,1,0,0,1,1,1,1,0,
 0]),Item.inBlock 4,Item.inBlock 1,Item.code (cA 6 [1,1,1,1,0,1,0,0,1,1,1]),Item.inLoop (cA 6 [1,1,1,1,0,1,0,0]),Item.inBlock 0,Item.code (cAt
 Try.prog 6 [1,1,1,1,1])] (mkJ 0 [(1,.int .u8 pa),(7,.ptr 100000 0),(9,.dat last),(40,.dat l),(41,.int .i64 (↑(D.len l) : Int)),(42,.int .i64
 j),(88,.vec 1),(89,.int .i64 (↑(D.len mb) : Int)),(90,.int .i64 0)] 0 133)) [] [(1,OBlk.arr 28 mb),(3,OBlk.arr 50 ms),(4,OBlk.arr 3 n0),(5,OBlk.arr 3 n1),
 (6,OBlk.arr 3 n2),(100000,noC 1 3 3 now c pd sd zd wd ed h),(100001,OBlk.cells 22 [.vec 4,.vec 5,.vec 6])]))) := by kernel_rfl
end
def gbL (l : D) (pa : Int) (last : D) (j : Int) (p : D) (i : Int) (mm : Mem) : Conf := Conf.mk (SFrm.mk 6 none none [Item.inLoop (cA 6 [1,1,1,1,0,1,0,0,1,1,0,0,1,1,0,1,1,0,0,1,0,0]),Item.inBlock 2,Item.code (cA 6 [1,1,1,1,0,1,0,0,1,1,0,0,1,1,0,1,1,0,1]),Item.code (cA 6 [1,1,1,1,0,1,0,0,1,1,0,0,1,1,1]),Item.inBlock 1,Item.code (cA 6 [1,1,1,1,0,1,0,0,1,1,1]),Item.inLoop (cA 6 [1,1,1,1,0,1,0,0]),Item.inBlock 0,Item.code (cA 6 [1,1,1,1,1])] (mkJ 0 [(1,.int .u8 pa),(7,.ptr 100000 0),(9,.dat last),(12,.dat p),(40,.dat l),(41,.int .i64 (l.len : Int)),(42,.int .i64 j),(64,.int .i64 (last.len : Int)),(65,.int .i64 i)] 0 133)) [] mm
def gcL (l : D) (pa : Int) (last : D) (j : Int) (mb : D) (i : Int) (mm : Mem) : Conf := Conf.mk (SFrm.mk 6 none none [Item.inLoop (cA 6 [1,1,1,1,0,1,0,0,1,1,0,0,1,1,1,1,0,0]),Item.inBlock 4,Item.inBlock 1,Item.code (cA 6 [1,1,1,1,0,1,0,0,1,1,1]),Item.inLoop (cA 6 [1,1,1,1,0,1,0,0]),Item.inBlock 0,Item.code (cA 6 [1,1,1,1,1])] (mkJ 0 [(1,.int .u8 pa),(7,.ptr 100000 0),(9,.dat last),(40,.dat l),(41,.int .i64 (l.len : Int)),(42,.int .i64 j),(88,.vec 1),(89,.int .i64 (mb.len : Int)),(90,.int .i64 i)] 0 133)) [] mm
section
variable (now pa j i : Int) (c : Co) (pd sd mb zd wd ed ms l last p n0 n1 n2 : D) (h : Hist)
theorem gb1_go : 
 let z1 : Prop := (decide (i ≥ (↑(D.len p) : Int)) = false)
 let z2 : Prop := (decide (i ≥ (↑(D.len p) : Int)) = true)
 let z3 := (cA 6 [1,1,1,1,0,1,0,0,1,1,0,0,1,1,0,1,1,0,0,1,0,0])
 let z4 := (cA 6 [1,1,1,1,0,1,0,0,1,1,0,0,1,1,0,1,1,0,1])
 let z5 := (cA 6 [1,1,1,1,0,1,0,0,1,1,0,0,1,1,1])
 let z6 := (cA 6 [1,1,1,1,0,1,0,0])
 let z7 := (cA 6 [1,1,1,1,0,1,0,0,1,1,1])
 execRE Try.prog ctGr [33] 400 (unroll (gbL l pa last j p i (noV 1 [n0] now c pd sd mb zd wd ed ms h))) =
 Tree.br (decide (i < (↑(D.len last) : Int))) (.all fun hs=>.br (decide (i ≥ (↑(D.len p) : Int))) (.need z2 (.need z2 (.need z2 (.need z2 (.need z2 (.need z2 (.need z2 (.need z2 (.need z2 (.need z2 (.leaf
 (Conf.mk (SFrm.mk 6 none none [Item.code (cA 6 [1,1,0,1,0,1]),Item.inBlock 3,Item.code (cAt Try.prog 6 [1,1,1,1,0,1,0,0,1,1,0,0,1,1,0,1,1,0,0,1,0,0,1,1,1]),Item.inLoop z3,Item.inBlock 2,Item.code z4,Item.code z5,Item.inBlock 1,Item.code z7,Item.inLoop z6,Item.inBlock 0,Item.code
 (cA 6 [1,1,1,1,1])] (mkJ 0 [(6,.lb false)] 0 133)) [] [(0,OBlk.arr 28 mb),(1,OBlk.arr 50 ms),(2,OBlk.arr 3 n0),(100000,noC 0 1 1 now c pd sd zd wd ed h),(100001,OBlk.cells 22 [.vec 2])]))))))))))))
 (.need z1 (.need z1 (.need z1 (.need (0 ≤ i ∧ i < (↑(D.len p) : Int) ∧ D.sz p = 1) (.need z1 (.need (D.HasCell p (Int.toNat i) 0 (FT.int .i64)) (.need z1 (.need z1 (.need z1 (.need (0 ≤ i ∧ i < (↑(D.len last) : Int) ∧ D.sz last = 1)
 (.need z1 (.need (D.HasCell last (Int.toNat i) 0 (FT.int .i64)) (.need z1 (.need z1 (.br (decide (D.getInt p (Int.toNat i) 0 < D.getInt last (Int.toNat i) 0)) (.leaf (Conf.mk (SFrm.mk 6 none none [Item.code
 (cA 6 [1,1,0,1,0,1]),Item.inBlock 3,Item.code (cA 6 [1,1,1,1,0,1,0,0,1,1,0,0,1,1,0,1,1,0,0,1,0,0,1,1,1]),Item.inLoop z3,Item.inBlock 2,Item.code z4,Item.code z5,Item.inBlock 1,Item.code z7,Item.inLoop z6,Item.inBlock 0,Item.code
 (cAt Try.prog 6 [1,1,1,1,1])] (mkJ 0 [(6,.lb false)] 0 133)) [] [(0,OBlk.arr 28 mb),(1,OBlk.arr 50 ms),(2,OBlk.arr 3 n0),(100000,noC 0 1 1 now c pd sd zd wd ed h),(100001,OBlk.cells 22 [.vec 2])]))
 (.leaf (Conf.mk (SFrm.mk 6 none none [Item.inLoop z3,Item.inBlock 2,Item.code z4,Item.code z5,Item.inBlock 1,Item.code (cAt Try.prog 6 [1,1,1,1,0,1,0,0,1,1,1]),Item.inLoop z6,Item.inBlock 0,Item.code
 (cA 6 [1,1,1,1,1])] (mkJ 0 [(1,.int .u8 pa),(7,.ptr 100000 0),(9,.dat last),(12,.dat p),(40,.dat l),(41,.int .i64 (↑(D.len l) : Int)),(42,.int .i64 j),(64,.int .i64 (↑(D.len last) : Int)),
 (65,.int .i64 (IntKind.wrap .i64 (i + 1)))] 0 133)) [] [(1,OBlk.arr 28 mb),(3,OBlk.arr 50 ms),(4,OBlk.arr 3 n0),(100000,noC 1 3 1 now c pd sd zd wd ed h),(100001,OBlk.cells 22 [.vec 4])]))))))))))))))))))
 (.leaf (Conf.mk (SFrm.mk 6 none none [Item.inLoop (cA 6 [1,1,1,1,0,1,0,0,1,1,0,0,1,1,1,1,0,0]),Item.inBlock 4,Item.inBlock 1,Item.code z7,Item.inLoop z6,Item.inBlock 0,Item.code
 (cAt Try.prog 6 [1,1,1,1,1])] (mkJ 0 [(1,.int .u8 pa),(7,.ptr 100000 0),(9,.dat p),(40,.dat l),(41,.int .i64 (↑(D.len l) : Int)),(42,.int .i64 j),(88,.vec 1),(89,.int .i64 (↑(D.len mb) : Int)),
 (90,.int .i64 0)] 0 133)) [] [(1,OBlk.arr 28 mb),(3,OBlk.arr 50 ms),(4,OBlk.arr 3 n0),(100000,noC 1 3 1 now c pd sd zd wd ed h),(100001,OBlk.cells 22 [.vec 4])])) := by
 intros; kernel_rfl
theorem gb2_go : 
 let z1 : Prop := (decide (i ≥ (↑(D.len p) : Int)) = false)
 let z2 : Prop := (decide (i ≥ (↑(D.len p) : Int)) = true)
 let z3 := (cA 6 [1,1,1,1,0,1,0,0,1,1,0,0,1,1,0,1,1,0,0,1,0,0])
 let z4 := (cA 6 [1,1,1,1,0,1,0,0,1,1,0,0,1,1,0,1,1,0,1])
 let z5 := (cA 6 [1,1,1,1,0,1,0,0,1,1,1])
 let z6 := (cA 6 [1,1,1,1,0,1,0,0,1,1,0,0,1,1,1])
 let z7 := (cA 6 [1,1,1,1,0,1,0,0])
 execRE Try.prog ctGr [33] 400 (unroll (gbL l pa last j p i (noV 2 [n0,n1] now c pd sd mb zd wd ed ms h))) =
 Tree.br (decide (i < (↑(D.len last) : Int))) (.all fun hs=>.br (decide (i ≥ (↑(D.len p) : Int))) (.need z2 (.need z2 (.need z2 (.need z2 (.need z2 (.need z2 (.need z2 (.need z2 (.need z2 (.need z2 (.leaf
 (Conf.mk (SFrm.mk 6 none none [Item.code (cA 6 [1,1,0,1,0,1]),Item.inBlock 3,Item.code (cAt Try.prog 6 [1,1,1,1,0,1,0,0,1,1,0,0,1,1,0,1,1,0,0,1,0,0,1,1,1]),Item.inLoop z3,Item.inBlock 2,Item.code z4,Item.code z6,Item.inBlock 1,Item.code z5,Item.inLoop z7,Item.inBlock 0,Item.code
 (cA 6 [1,1,1,1,1])] (mkJ 0 [(6,.lb false)] 0 133)) [] [(0,OBlk.arr 28 mb),(1,OBlk.arr 50 ms),(2,OBlk.arr 3 n0),(3,OBlk.arr 3 n1),(100000,noC 0 1 2 now c pd sd zd wd ed h),(100001,OBlk.cells 22 [.vec 2,.vec 3])]))))))))))))
 (.need z1 (.need z1 (.need z1 (.need (0 ≤ i ∧ i < (↑(D.len p) : Int) ∧ D.sz p = 1) (.need z1 (.need (D.HasCell p (Int.toNat i) 0 (FT.int .i64)) (.need z1 (.need z1 (.need z1 (.need (0 ≤ i ∧ i < (↑(D.len last) : Int) ∧ D.sz last = 1)
 (.need z1 (.need (D.HasCell last (Int.toNat i) 0 (FT.int .i64)) (.need z1 (.need z1 (.br (decide (D.getInt p (Int.toNat i) 0 < D.getInt last (Int.toNat i) 0)) (.leaf (Conf.mk (SFrm.mk 6 none none [Item.code
 (cAt Try.prog 6 [1,1,0,1,0,1]),Item.inBlock 3,Item.code (cA 6 [1,1,1,1,0,1,0,0,1,1,0,0,1,1,0,1,1,0,0,1,0,0,1,1,1]),Item.inLoop z3,Item.inBlock 2,Item.code z4,Item.code z6,Item.inBlock 1,Item.code z5,Item.inLoop z7,Item.inBlock 0,Item.code
 (cA 6 [1,1,1,1,1])] (mkJ 0 [(6,.lb false)] 0 133)) [] [(0,OBlk.arr 28 mb),(1,OBlk.arr 50 ms),(2,OBlk.arr 3 n0),(3,OBlk.arr 3 n1),(100000,noC 0 1 2 now c pd sd zd wd ed h),(100001,OBlk.cells 22 [.vec 2,.vec 3])]))
 (.leaf (Conf.mk (SFrm.mk 6 none none [Item.inLoop z3,Item.inBlock 2,Item.code z4,Item.code z6,Item.inBlock 1,Item.code z5,Item.inLoop z7,Item.inBlock 0,Item.code (cA 6 [1,1,1,1,1])] (mkJ 0 [(1,.int .u8 pa),
 (7,.ptr 100000 0),(9,.dat last),(12,.dat p),(40,.dat l),(41,.int .i64 (↑(D.len l) : Int)),(42,.int .i64 j),(64,.int .i64 (↑(D.len last) : Int)),(65,.int .i64 (IntKind.wrap .i64 (i + 1)))] 0 133)) [] [(1,OBlk.arr 28 mb),
 (3,OBlk.arr 50 ms),(4,OBlk.arr 3 n0),(5,OBlk.arr 3 n1),(100000,noC 1 3 2 now c pd sd zd wd ed h),(100001,OBlk.cells 22 [.vec 4,.vec 5])])))))))))))))))))) (.leaf (Conf.mk (SFrm.mk 6 none none [Item.inLoop
 (cAt Try.prog 6 [1,1,1,1,0,1,0,0,1,1,0,0,1,1,1,1,0,0]),Item.inBlock 4,Item.inBlock 1,Item.code z5,Item.inLoop z7,Item.inBlock 0,Item.code (cA 6 [1,1,1,1,1])] (mkJ 0 [(1,.int .u8 pa),
 (7,.ptr 100000 0),(9,.dat p),(40,.dat l),(41,.int .i64 (↑(D.len l) : Int)),(42,.int .i64 j),(88,.vec 1),(89,.int .i64 (↑(D.len mb) : Int)),(90,.int .i64 0)] 0 133)) [] [(1,OBlk.arr 28 mb),
 (3,OBlk.arr 50 ms),(4,OBlk.arr 3 n0),(5,OBlk.arr 3 n1),(100000,noC 1 3 2 now c pd sd zd wd ed h),(100001,OBlk.cells 22 [.vec 4,.vec 5])])) := by
 intros; kernel_rfl
theorem gb3_go : 
 let z1 : Prop := (decide (i ≥ (↑(D.len p) : Int)) = false)
 let z2 : Prop := (decide (i ≥ (↑(D.len p) : Int)) = true)
 let z3 := (cA 6 [1,1,1,1,0,1,0,0,1,1,0,0,1,1,0,1,1,0,0,1,0,0])
 let z4 := (cA 6 [1,1,1,1,0,1,0,0,1,1,0,0,1,1,0,1,1,0,1])
 let z5 := (cA 6 [1,1,1,1,0,1,0,0,1,1,1])
 let z6 := (cA 6 [1,1,1,1,0,1,0,0,1,1,0,0,1,1,1])
 let z7 := (cA 6 [1,1,1,1,0,1,0,0])
 execRE Try.prog ctGr [33] 400 (unroll (gbL l pa last j p i (noV 3 [n0,n1,n2] now c pd sd mb zd wd ed ms h))) =
 Tree.br (decide (i < (↑(D.len last) : Int))) (.all fun hs=>.br (decide (i ≥ (↑(D.len p) : Int))) (.need z2 (.need z2 (.need z2 (.need z2 (.need z2 (.need z2 (.need z2 (.need z2 (.need z2 (.need z2 (.leaf
 (Conf.mk (SFrm.mk 6 none none [Item.code (cA 6 [1,1,0,1,0,1]),Item.inBlock 3,Item.code (cAt Try.prog 6 [1,1,1,1,0,1,0,0,1,1,0,0,1,1,0,1,1,0,0,1,0,0,1,1,1]),Item.inLoop z3,Item.inBlock 2,Item.code z4,Item.code z6,Item.inBlock 1,Item.code z5,Item.inLoop z7,Item.inBlock 0,Item.code
 (cA 6 [1,1,1,1,1])] (mkJ 0 [(6,.lb false)] 0 133)) [] [(0,OBlk.arr 28 mb),(1,OBlk.arr 50 ms),(2,OBlk.arr 3 n0),(3,OBlk.arr 3 n1),(4,OBlk.arr 3 n2),(100000,noC 0 1 3 now c pd sd zd wd ed h),
 (100001,OBlk.cells 22 [.vec 2,.vec 3,.vec 4])])))))))))))) (.need z1 (.need z1 (.need z1 (.need (0 ≤ i ∧ i < (↑(D.len p) : Int) ∧ D.sz p = 1) (.need z1 (.need (D.HasCell p (Int.toNat i) 0 (FT.int .i64))
 (.need z1 (.need z1 (.need z1 (.need (0 ≤ i ∧ i < (↑(D.len last) : Int) ∧ D.sz last = 1) (.need z1 (.need (D.HasCell last (Int.toNat i) 0 (FT.int .i64)) (.need z1 (.need z1 (.br (decide (D.getInt p (Int.toNat i) 0 < D.getInt last
 (Int.toNat i) 0)) (.leaf (Conf.mk (SFrm.mk 6 none none [Item.code (cA 6 [1,1,0,1,0,1]),Item.inBlock 3,Item.code (cA 6 [1,1,1,1,0,1,0,0,1,1,0,0,1,1,0,1,1,0,0,1,0,0,1,1,1]),Item.inLoop z3,Item.inBlock 2,Item.code z4,Item.code z6,Item.inBlock 1,Item.code z5,Item.inLoop z7,Item.inBlock 0,Item.code
 (cA 6 [1,1,1,1,1])] (mkJ 0 [(6,.lb false)] 0 133)) [] [(0,OBlk.arr 28 mb),(1,OBlk.arr 50 ms),(2,OBlk.arr 3 n0),(3,OBlk.arr 3 n1),(4,OBlk.arr 3 n2),(100000,noC 0 1 3 now c pd sd zd wd ed h),
 (100001,OBlk.cells 22 [.vec 2,.vec 3,.vec 4])])) (.leaf (Conf.mk (SFrm.mk 6 none none [Item.inLoop z3,Item.inBlock 2,Item.code z4,Item.code z6,Item.inBlock 1,Item.code z5,Item.inLoop z7,Item.inBlock 0,Item.code
 (cA 6 [1,1,1,1,1])] (mkJ 0 [(1,.int .u8 pa),(7,.ptr 100000 0),(9,.dat last),(12,.dat p),(40,.dat l),(41,.int .i64 (↑(D.len l) : Int)),(42,.int .i64 j),(64,.int .i64 (↑(D.len last) : Int)),
 (65,.int .i64 (IntKind.wrap .i64 (i + 1)))] 0 133)) [] [(1,OBlk.arr 28 mb),(3,OBlk.arr 50 ms),(4,OBlk.arr 3 n0),(5,OBlk.arr 3 n1),(6,OBlk.arr 3 n2),(100000,noC 1 3 3 now c pd sd zd wd ed h),
 (100001,OBlk.cells 22 [.vec 4,.vec 5,.vec 6])])))))))))))))))))) (.leaf (Conf.mk (SFrm.mk 6 none none [Item.inLoop (cA 6 [1,1,1,1,0,1,0,0,1,1,0,0,1,1,1,1,0,0]),Item.inBlock 4,Item.inBlock 1,Item.code z5,Item.inLoop z7,Item.inBlock 0,Item.code
 (cA 6 [1,1,1,1,1])] (mkJ 0 [(1,.int .u8 pa),(7,.ptr 100000 0),(9,.dat p),(40,.dat l),(41,.int .i64 (↑(D.len l) : Int)),(42,.int .i64 j),(88,.vec 1),(89,.int .i64 (↑(D.len mb) : Int)),
 (90,.int .i64 0)] 0 133)) [] [(1,OBlk.arr 28 mb),(3,OBlk.arr 50 ms),(4,OBlk.arr 3 n0),(5,OBlk.arr 3 n1),(6,OBlk.arr 3 n2),(100000,noC 1 3 3 now c pd sd zd wd ed h),(100001,OBlk.cells 22 [.vec 4,.vec 5,.vec 6])])) := by
 intros; kernel_rfl
end
end Sv
end
noncomputable section
namespace Sx
open Go RowKit
def Tree.cut (t : Tree) : List Bool → Tree := Tree.rec (motive := fun _=>List Bool → Tree) (fun c _=>.leaf c) (fun v _=>.ret v)
 (fun b _ _ ht hf bs=>match bs with
  | []=>.stuck
  | true :: r=>.need (b = true) (ht r)
  | false :: r=>.need (b = false) (hf r)) (fun p _ ih bs=>.need p (ih bs)) (fun _ ih bs=>.all fun hs=>ih hs bs) (fun _=>.stuck) t
theorem cut_sound {P : Program} {C : Ctx} {R : Value → World → Prop} : ∀ {t : Tree} {bs : List Bool},(t.cut bs).holds P C R → t.holds P C R
 | .leaf _,_,h=>h
 | .ret _,_,h=>h
 | .br _ _ _,[],h=>h.elim
 | .br _ _ _,true :: _,⟨h1,h2⟩=>⟨fun _=>cut_sound h2,fun h=>(nomatch h1.symm.trans h)⟩
 | .br _ _ _,false :: _,⟨h1,h2⟩=>⟨fun h=>(nomatch h1.symm.trans h),fun _=>cut_sound h2⟩
 | .need _ _,_,⟨h1,h2⟩=>⟨h1,cut_sound h2⟩
 | .all _,_,h=>fun hs=>cut_sound (h hs)
 | .stuck,_,h=>h.elim
end Sx
end
noncomputable section
open Go Go.Proofs Sx
namespace Sv
section
variable (now pa j : Int) (c : Co) (pd sd mb zd wd ed ms l last n0 n1 n2 : D) (h : Hist)
theorem gc10_go : execRE Try.prog ctGr [33] 400 (unroll (gcL l pa last j mb 0 (noV 1 [n0] now c pd sd mb zd wd ed ms h))) =
 Tree.br (decide (0 < (↑(D.len mb) : Int))) (.need ((0 : Int) ≤ 0 ∧ 0 < (↑(D.len mb) : Int) ∧ D.sz mb = 8) (.need (D.HasCells mb 0 0 [FT.int .i64,FT.int .i64,FT.int
 .i64,FT.int .i64,FT.bool,FT.int .i64,FT.slc,FT.slc] ∧ D.sz mb = 8) (.need ((0 : Int) ≤ 0 ∧ 0 < (↑1 : Int)) (.leaf (Conf.mk (SFrm.mk 6 none none [Item.inLoop (cAt
 Try.prog 6 [1,1,1,1,0,1,0,0,1,1,0,0,1,1,1,1,0,0,1,1,0,0,1,1,0,0]),Item.inBlock 6,Item.inBlock 5,Item.code (cA 6 [1,1,1,1,0,1,0,0,1,1,0,0,1,
 1,1,1,0,0,1,1,1]),Item.inLoop (cA 6 [1,1,1,1,0,1,0,0,1,1,0,0,1,1,1,1,0,0]),Item.inBlock 4,Item.inBlock 1,Item.code (cA 6 [1,1,1,1,0,1,0,
 0,1,1,1]),Item.inLoop (cA 6 [1,1,1,1,0,1,0,0]),Item.inBlock 0,Item.code (cA 6 [1,1,1,1,1])] (mkJ 0 [(1,.int .u8 pa),(7,.ptr 100000 0),(9,
 .dat last),(16,.ptr 1 0),(40,.dat l),(41,.int .i64 (↑(D.len l) : Int)),(42,.int .i64 j),(88,.vec 2),(89,.int .i64 (↑(D.len mb) : Int)),(90,
 .int .i64 0),(101,.vec 3),(102,.int .i64 (↑(D.len n0) : Int)),(103,.int .i64 0)] 0 133)) [] [(1,OBlk.cells 28 [.int .i64 (D.getInt mb 0 0),
 .int .i64 (D.getInt mb 0 1),.int .i64 (D.getInt mb 0 2),.int .i64 (D.getInt mb 0 3),.bool (D.getBool mb 0 4),.int .i64 (D.getInt mb 0 5),.dat
 (D.cell mb 0 6),.dat (D.cell mb 0 7)]),(2,OBlk.arr 28 mb),(3,OBlk.arr 3 n0),(5,OBlk.arr 50 ms),(100000,noC 2 5 1 now c pd sd zd wd ed h),(100001,OBlk.cells 22 [.vec 3])])))))
 (.leaf (Conf.mk (SFrm.mk 6 none none [Item.inLoop (cA 6 [1,1,1,1,0,1,0,0]),Item.inBlock 0,Item.code (cA 6 [1,1,1,1,1])] (mkJ 0 [(1,.int .u8
 pa),(7,.ptr 100000 0),(9,.dat last),(40,.dat l),(41,.int .i64 (↑(D.len l) : Int)),(42,.int .i64 (IntKind.wrap .i64 (j + 1)))] 0 133)) [] [(1,
 OBlk.arr 28 mb),(3,OBlk.arr 50 ms),(4,OBlk.arr 3 n0),(100000,noC 1 3 1 now c pd sd zd wd ed h),(100001,OBlk.cells 22 [.vec 4])])) := by kernel_rfl
theorem gc11_go : Tree.cut (execRE Try.prog ctGr [33] 400 (unroll (gcL l pa last j mb 1 (noV 1 [n0] now c pd sd mb zd wd ed ms h)))) [false] =
 Tree.need (decide (1 < (↑(D.len mb) : Int)) = false) (.leaf (Conf.mk (SFrm.mk 6 none none [Item.inLoop (cA 6 [1,1,1,1,0,1,0,0]),Item.inBlock 0,Item.code (cA
 6 [1,1,1,1,1])] (mkJ 0 [(1,.int .u8 pa),(7,.ptr 100000 0),(9,.dat last),(40,.dat l),(41,.int .i64 (↑(D.len l) : Int)),(42,.int .i64
 (IntKind.wrap .i64 (j + 1)))] 0 133)) [] [(1,OBlk.arr 28 mb),(3,OBlk.arr 50 ms),(4,OBlk.arr 3 n0),(100000,noC 1 3 1 now c pd sd zd wd ed h),(100001,OBlk.cells 22 [.vec
 4])])) := by kernel_rfl
theorem gc20_go : execRE Try.prog ctGr [33] 400 (unroll (gcL l pa last j mb 0 (noV 2 [n0,n1] now c pd sd mb zd wd ed ms h))) =
 Tree.br (decide (0 < (↑(D.len mb) : Int))) (.need ((0 : Int) ≤ 0 ∧ 0 < (↑(D.len mb) : Int) ∧ D.sz mb = 8) (.need (D.HasCells mb 0 0 [FT.int .i64,FT.int .i64,FT.int
 .i64,FT.int .i64,FT.bool,FT.int .i64,FT.slc,FT.slc] ∧ D.sz mb = 8) (.need ((0 : Int) ≤ 0 ∧ 0 < (↑2 : Int)) (.leaf (Conf.mk (SFrm.mk 6 none none [Item.inLoop (cAt
 Try.prog 6 [1,1,1,1,0,1,0,0,1,1,0,0,1,1,1,1,0,0,1,1,0,0,1,1,0,0]),Item.inBlock 6,Item.inBlock 5,Item.code (cA 6 [1,1,1,1,0,1,0,0,1,1,0,0,1,
 1,1,1,0,0,1,1,1]),Item.inLoop (cA 6 [1,1,1,1,0,1,0,0,1,1,0,0,1,1,1,1,0,0]),Item.inBlock 4,Item.inBlock 1,Item.code (cA 6 [1,1,1,1,0,1,0,
 0,1,1,1]),Item.inLoop (cA 6 [1,1,1,1,0,1,0,0]),Item.inBlock 0,Item.code (cA 6 [1,1,1,1,1])] (mkJ 0 [(1,.int .u8 pa),(7,.ptr 100000 0),(9,
 .dat last),(16,.ptr 1 0),(40,.dat l),(41,.int .i64 (↑(D.len l) : Int)),(42,.int .i64 j),(88,.vec 2),(89,.int .i64 (↑(D.len mb) : Int)),(90,
 .int .i64 0),(101,.vec 3),(102,.int .i64 (↑(D.len n0) : Int)),(103,.int .i64 0)] 0 133)) [] [(1,OBlk.cells 28 [.int .i64 (D.getInt mb 0 0),
 .int .i64 (D.getInt mb 0 1),.int .i64 (D.getInt mb 0 2),.int .i64 (D.getInt mb 0 3),.bool (D.getBool mb 0 4),.int .i64 (D.getInt mb 0 5),.dat
 (D.cell mb 0 6),.dat (D.cell mb 0 7)]),(2,OBlk.arr 28 mb),(3,OBlk.arr 3 n0),(5,OBlk.arr 50 ms),(6,OBlk.arr 3 n1),(100000,noC 2 5 2 now c pd sd zd wd ed h),(100001,OBlk.cells
 22 [.vec 3,.vec 6])]))))) (.leaf (Conf.mk (SFrm.mk 6 none none [Item.inLoop (cA 6 [1,1,1,1,0,1,0,0]),Item.inBlock 0,Item.code (cA 6 [1,1,1,1,1])]
 (mkJ 0 [(1,.int .u8 pa),(7,.ptr 100000 0),(9,.dat last),(40,.dat l),(41,.int .i64 (↑(D.len l) : Int)),(42,.int .i64 (IntKind.wrap .i64 (j +
 1)))] 0 133)) [] [(1,OBlk.arr 28 mb),(3,OBlk.arr 50 ms),(4,OBlk.arr 3 n0),(5,OBlk.arr 3 n1),(100000,noC 1 3 2 now c pd sd zd wd ed h),(100001,OBlk.cells 22 [.vec 4,.vec
 5])])) := by kernel_rfl
theorem gc21_go : execRE Try.prog ctGr [33] 400 (unroll (gcL l pa last j mb 1 (noV 2 [n0,n1] now c pd sd mb zd wd ed ms h))) =
 Tree.br (decide (1 < (↑(D.len mb) : Int))) (.need ((0 : Int) ≤ 1 ∧ 1 < (↑(D.len mb) : Int) ∧ D.sz mb = 8) (.need (D.HasCells mb 1 0 [FT.int .i64,FT.int .i64,FT.int
 .i64,FT.int .i64,FT.bool,FT.int .i64,FT.slc,FT.slc] ∧ D.sz mb = 8) (.need ((0 : Int) ≤ 1 ∧ 1 < (↑2 : Int)) (.leaf (Conf.mk (SFrm.mk 6 none none [Item.inLoop (cAt
 Try.prog 6 [1,1,1,1,0,1,0,0,1,1,0,0,1,1,1,1,0,0,1,1,0,0,1,1,0,0]),Item.inBlock 6,Item.inBlock 5,Item.code (cA 6 [1,1,1,1,0,1,0,0,1,1,0,0,1,
 1,1,1,0,0,1,1,1]),Item.inLoop (cA 6 [1,1,1,1,0,1,0,0,1,1,0,0,1,1,1,1,0,0]),Item.inBlock 4,Item.inBlock 1,Item.code (cA 6 [1,1,1,1,0,1,0,
 0,1,1,1]),Item.inLoop (cA 6 [1,1,1,1,0,1,0,0]),Item.inBlock 0,Item.code (cA 6 [1,1,1,1,1])] (mkJ 0 [(1,.int .u8 pa),(7,.ptr 100000 0),(9,
 .dat last),(16,.ptr 1 0),(40,.dat l),(41,.int .i64 (↑(D.len l) : Int)),(42,.int .i64 j),(88,.vec 2),(89,.int .i64 (↑(D.len mb) : Int)),(90,
 .int .i64 1),(101,.vec 3),(102,.int .i64 (↑(D.len n1) : Int)),(103,.int .i64 0)] 0 133)) [] [(1,OBlk.cells 28 [.int .i64 (D.getInt mb 1 0),
 .int .i64 (D.getInt mb 1 1),.int .i64 (D.getInt mb 1 2),.int .i64 (D.getInt mb 1 3),.bool (D.getBool mb 1 4),.int .i64 (D.getInt mb 1 5),.dat
 (D.cell mb 1 6),.dat (D.cell mb 1 7)]),(2,OBlk.arr 28 mb),(3,OBlk.arr 3 n1),(5,OBlk.arr 50 ms),(6,OBlk.arr 3 n0),(100000,noC 2 5 2 now c pd sd zd wd ed h),(100001,OBlk.cells
 22 [.vec 6,.vec 3])]))))) (.leaf (Conf.mk (SFrm.mk 6 none none [Item.inLoop (cA 6 [1,1,1,1,0,1,0,0]),Item.inBlock 0,Item.code (cA 6 [1,1,1,1,1])]
 (mkJ 0 [(1,.int .u8 pa),(7,.ptr 100000 0),(9,.dat last),(40,.dat l),(41,.int .i64 (↑(D.len l) : Int)),(42,.int .i64 (IntKind.wrap .i64 (j +
 1)))] 0 133)) [] [(1,OBlk.arr 28 mb),(3,OBlk.arr 50 ms),(4,OBlk.arr 3 n0),(5,OBlk.arr 3 n1),(100000,noC 1 3 2 now c pd sd zd wd ed h),(100001,OBlk.cells 22 [.vec 4,.vec
 5])])) := by kernel_rfl
theorem gc22_go : Tree.cut (execRE Try.prog ctGr [33] 400 (unroll (gcL l pa last j mb 2 (noV 2 [n0,n1] now c pd sd mb zd wd ed ms h)))) [false] =
 Tree.need (decide (2 < (↑(D.len mb) : Int)) = false) (.leaf (Conf.mk (SFrm.mk 6 none none [Item.inLoop (cA 6 [1,1,1,1,0,1,0,0]),Item.inBlock 0,Item.code (cA
 6 [1,1,1,1,1])] (mkJ 0 [(1,.int .u8 pa),(7,.ptr 100000 0),(9,.dat last),(40,.dat l),(41,.int .i64 (↑(D.len l) : Int)),(42,.int .i64
 (IntKind.wrap .i64 (j + 1)))] 0 133)) [] [(1,OBlk.arr 28 mb),(3,OBlk.arr 50 ms),(4,OBlk.arr 3 n0),(5,OBlk.arr 3 n1),(100000,noC 1 3 2 now c pd sd zd wd ed h),(100001,
 OBlk.cells 22 [.vec 4,.vec 5])])) := by kernel_rfl
theorem gc30_go : execRE Try.prog ctGr [33] 400 (unroll (gcL l pa last j mb 0 (noV 3 [n0,n1,n2] now c pd sd mb zd wd ed ms h))) =
 Tree.br (decide (0 < (↑(D.len mb) : Int))) (.need ((0 : Int) ≤ 0 ∧ 0 < (↑(D.len mb) : Int) ∧ D.sz mb = 8) (.need (D.HasCells mb 0 0 [FT.int .i64,FT.int .i64,FT.int
 .i64,FT.int .i64,FT.bool,FT.int .i64,FT.slc,FT.slc] ∧ D.sz mb = 8) (.need ((0 : Int) ≤ 0 ∧ 0 < (↑3 : Int)) (.leaf (Conf.mk (SFrm.mk 6 none none [Item.inLoop (cAt
 Try.prog 6 [1,1,1,1,0,1,0,0,1,1,0,0,1,1,1,1,0,0,1,1,0,0,1,1,0,0]),Item.inBlock 6,Item.inBlock 5,Item.code (cA 6 [1,1,1,1,0,1,0,0,1,1,0,0,1,
 1,1,1,0,0,1,1,1]),Item.inLoop (cA 6 [1,1,1,1,0,1,0,0,1,1,0,0,1,1,1,1,0,0]),Item.inBlock 4,Item.inBlock 1,Item.code (cA 6 [1,1,1,1,0,1,0,
 0,1,1,1]),Item.inLoop (cA 6 [1,1,1,1,0,1,0,0]),Item.inBlock 0,Item.code (cA 6 [1,1,1,1,1])] (mkJ 0 [(1,.int .u8 pa),(7,.ptr 100000 0),(9,
 .dat last),(16,.ptr 1 0),(40,.dat l),(41,.int .i64 (↑(D.len l) : Int)),(42,.int .i64 j),(88,.vec 2),(89,.int .i64 (↑(D.len mb) : Int)),(90,
 .int .i64 0),(101,.vec 3),(102,.int .i64 (↑(D.len n0) : Int)),(103,.int .i64 0)] 0 133)) [] [(1,OBlk.cells 28 [.int .i64 (D.getInt mb 0 0),
 .int .i64 (D.getInt mb 0 1),.int .i64 (D.getInt mb 0 2),.int .i64 (D.getInt mb 0 3),.bool (D.getBool mb 0 4),.int .i64 (D.getInt mb 0 5),.dat
 (D.cell mb 0 6),.dat (D.cell mb 0 7)]),(2,OBlk.arr 28 mb),(3,OBlk.arr 3 n0),(5,OBlk.arr 50 ms),(6,OBlk.arr 3 n1),(7,OBlk.arr 3 n2),(100000,noC 2 5 3 now c pd sd zd wd ed h),
 (100001,OBlk.cells 22 [.vec 3,.vec 6,.vec 7])]))))) (.leaf (Conf.mk (SFrm.mk 6 none none [Item.inLoop (cA 6 [1,1,1,1,0,1,0,0]),Item.inBlock 0,Item.code (cAt
 Try.prog 6 [1,1,1,1,1])] (mkJ 0 [(1,.int .u8 pa),(7,.ptr 100000 0),(9,.dat last),(40,.dat l),(41,.int .i64 (↑(D.len l) : Int)),(42,.int .i64
 (IntKind.wrap .i64 (j + 1)))] 0 133)) [] [(1,OBlk.arr 28 mb),(3,OBlk.arr 50 ms),(4,OBlk.arr 3 n0),(5,OBlk.arr 3 n1),(6,OBlk.arr 3 n2),(100000,noC 1 3 3 now c pd sd zd wd ed
 h),(100001,OBlk.cells 22 [.vec 4,.vec 5,.vec 6])])) := by kernel_rfl
theorem gc31_go : execRE Try.prog ctGr [33] 400 (unroll (gcL l pa last j mb 1 (noV 3 [n0,n1,n2] now c pd sd mb zd wd ed ms h))) =
 Tree.br (decide (1 < (↑(D.len mb) : Int))) (.need ((0 : Int) ≤ 1 ∧ 1 < (↑(D.len mb) : Int) ∧ D.sz mb = 8) (.need (D.HasCells mb 1 0 [FT.int .i64,FT.int .i64,FT.int
 .i64,FT.int .i64,FT.bool,FT.int .i64,FT.slc,FT.slc] ∧ D.sz mb = 8) (.need ((0 : Int) ≤ 1 ∧ 1 < (↑3 : Int)) (.leaf (Conf.mk (SFrm.mk 6 none none [Item.inLoop (cAt
 Try.prog 6 [1,1,1,1,0,1,0,0,1,1,0,0,1,1,1,1,0,0,1,1,0,0,1,1,0,0]),Item.inBlock 6,Item.inBlock 5,Item.code (cA 6 [1,1,1,1,0,1,0,0,1,1,0,0,1,
 1,1,1,0,0,1,1,1]),Item.inLoop (cA 6 [1,1,1,1,0,1,0,0,1,1,0,0,1,1,1,1,0,0]),Item.inBlock 4,Item.inBlock 1,Item.code (cA 6 [1,1,1,1,0,1,0,
 0,1,1,1]),Item.inLoop (cA 6 [1,1,1,1,0,1,0,0]),Item.inBlock 0,Item.code (cA 6 [1,1,1,1,1])] (mkJ 0 [(1,.int .u8 pa),(7,.ptr 100000 0),(9,
 .dat last),(16,.ptr 1 0),(40,.dat l),(41,.int .i64 (↑(D.len l) : Int)),(42,.int .i64 j),(88,.vec 2),(89,.int .i64 (↑(D.len mb) : Int)),(90,
 .int .i64 1),(101,.vec 3),(102,.int .i64 (↑(D.len n1) : Int)),(103,.int .i64 0)] 0 133)) [] [(1,OBlk.cells 28 [.int .i64 (D.getInt mb 1 0),
 .int .i64 (D.getInt mb 1 1),.int .i64 (D.getInt mb 1 2),.int .i64 (D.getInt mb 1 3),.bool (D.getBool mb 1 4),.int .i64 (D.getInt mb 1 5),.dat
 (D.cell mb 1 6),.dat (D.cell mb 1 7)]),(2,OBlk.arr 28 mb),(3,OBlk.arr 3 n1),(5,OBlk.arr 50 ms),(6,OBlk.arr 3 n0),(7,OBlk.arr 3 n2),(100000,noC 2 5 3 now c pd sd zd wd ed h),
 (100001,OBlk.cells 22 [.vec 6,.vec 3,.vec 7])]))))) (.leaf (Conf.mk (SFrm.mk 6 none none [Item.inLoop (cA 6 [1,1,1,1,0,1,0,0]),Item.inBlock 0,Item.code (cAt
 Try.prog 6 [1,1,1,1,1])] (mkJ 0 [(1,.int .u8 pa),(7,.ptr 100000 0),(9,.dat last),(40,.dat l),(41,.int .i64 (↑(D.len l) : Int)),(42,.int .i64
 (IntKind.wrap .i64 (j + 1)))] 0 133)) [] [(1,OBlk.arr 28 mb),(3,OBlk.arr 50 ms),(4,OBlk.arr 3 n0),(5,OBlk.arr 3 n1),(6,OBlk.arr 3 n2),(100000,noC 1 3 3 now c pd sd zd wd ed
 h),(100001,OBlk.cells 22 [.vec 4,.vec 5,.vec 6])])) := by kernel_rfl
theorem gc32_go : execRE Try.prog ctGr [33] 400 (unroll (gcL l pa last j mb 2 (noV 3 [n0,n1,n2] now c pd sd mb zd wd ed ms h))) =
 Tree.br (decide (2 < (↑(D.len mb) : Int))) (.need ((0 : Int) ≤ 2 ∧ 2 < (↑(D.len mb) : Int) ∧ D.sz mb = 8) (.need (D.HasCells mb 2 0 [FT.int .i64,FT.int .i64,FT.int
 .i64,FT.int .i64,FT.bool,FT.int .i64,FT.slc,FT.slc] ∧ D.sz mb = 8) (.need ((0 : Int) ≤ 2 ∧ 2 < (↑3 : Int)) (.leaf (Conf.mk (SFrm.mk 6 none none [Item.inLoop (cAt
 Try.prog 6 [1,1,1,1,0,1,0,0,1,1,0,0,1,1,1,1,0,0,1,1,0,0,1,1,0,0]),Item.inBlock 6,Item.inBlock 5,Item.code (cA 6 [1,1,1,1,0,1,0,0,1,1,0,0,1,
 1,1,1,0,0,1,1,1]),Item.inLoop (cA 6 [1,1,1,1,0,1,0,0,1,1,0,0,1,1,1,1,0,0]),Item.inBlock 4,Item.inBlock 1,Item.code (cA 6 [1,1,1,1,0,1,0,
 0,1,1,1]),Item.inLoop (cA 6 [1,1,1,1,0,1,0,0]),Item.inBlock 0,Item.code (cA 6 [1,1,1,1,1])] (mkJ 0 [(1,.int .u8 pa),(7,.ptr 100000 0),(9,
 .dat last),(16,.ptr 1 0),(40,.dat l),(41,.int .i64 (↑(D.len l) : Int)),(42,.int .i64 j),(88,.vec 2),(89,.int .i64 (↑(D.len mb) : Int)),(90,
 .int .i64 2),(101,.vec 3),(102,.int .i64 (↑(D.len n2) : Int)),(103,.int .i64 0)] 0 133)) [] [(1,OBlk.cells 28 [.int .i64 (D.getInt mb 2 0),
 .int .i64 (D.getInt mb 2 1),.int .i64 (D.getInt mb 2 2),.int .i64 (D.getInt mb 2 3),.bool (D.getBool mb 2 4),.int .i64 (D.getInt mb 2 5),.dat
 (D.cell mb 2 6),.dat (D.cell mb 2 7)]),(2,OBlk.arr 28 mb),(3,OBlk.arr 3 n2),(5,OBlk.arr 50 ms),(6,OBlk.arr 3 n0),(7,OBlk.arr 3 n1),(100000,noC 2 5 3 now c pd sd zd wd ed h),
 (100001,OBlk.cells 22 [.vec 6,.vec 7,.vec 3])]))))) (.leaf (Conf.mk (SFrm.mk 6 none none [Item.inLoop (cA 6 [1,1,1,1,0,1,0,0]),Item.inBlock 0,Item.code (cAt
 Try.prog 6 [1,1,1,1,1])] (mkJ 0 [(1,.int .u8 pa),(7,.ptr 100000 0),(9,.dat last),(40,.dat l),(41,.int .i64 (↑(D.len l) : Int)),(42,.int .i64
 (IntKind.wrap .i64 (j + 1)))] 0 133)) [] [(1,OBlk.arr 28 mb),(3,OBlk.arr 50 ms),(4,OBlk.arr 3 n0),(5,OBlk.arr 3 n1),(6,OBlk.arr 3 n2),(100000,noC 1 3 3 now c pd sd zd wd ed
 h),(100001,OBlk.cells 22 [.vec 4,.vec 5,.vec 6])])) := by kernel_rfl
theorem gc33_go : Tree.cut (execRE Try.prog ctGr [33] 400 (unroll (gcL l pa last j mb 3 (noV 3 [n0,n1,n2] now c pd sd mb zd wd ed ms h)))) [false] =
 Tree.need (decide (3 < (↑(D.len mb) : Int)) = false) (.leaf (Conf.mk (SFrm.mk 6 none none [Item.inLoop (cA 6 [1,1,1,1,0,1,0,0]),Item.inBlock 0,Item.code (cA
 6 [1,1,1,1,1])] (mkJ 0 [(1,.int .u8 pa),(7,.ptr 100000 0),(9,.dat last),(40,.dat l),(41,.int .i64 (↑(D.len l) : Int)),(42,.int .i64
 (IntKind.wrap .i64 (j + 1)))] 0 133)) [] [(1,OBlk.arr 28 mb),(3,OBlk.arr 50 ms),(4,OBlk.arr 3 n0),(5,OBlk.arr 3 n1),(6,OBlk.arr 3 n2),(100000,noC 1 3 3 now c pd sd zd wd ed
 h),(100001,OBlk.cells 22 [.vec 4,.vec 5,.vec 6])])) := by kernel_rfl
end
section
variable (a b : D) (k e : Int)
theorem ie_in : exec Try.prog [] 400 (entry Try.prog 72 [.dat a,.agg [.int .i64 k,.int .i64 e]]) =
 Tree.leaf (Conf.mk (SFrm.mk 72 none none [Item.inLoop (cA 72 [1,0,1,0,0]),Item.inBlock 0,Item.code (cA 72 [1,1])] (mkJ 0 [(0,.dat a),(3,.ptr 0 0),(7,
 .int .i64 (↑(D.len a) : Int)),(8,.int .i64 0)] 0 19)) [] [(0,OBlk.cells 79 [.int .i64 k,.int .i64 e])]) := by kernel_rfl
theorem ce_in : exec Try.prog [(72,ctrOf ((rdD.two rdEv).sp spAt))] 400 (entry Try.prog 35 [.dat a,.agg [.int .i64 k,.int .i64 e]]) =
 Tree.need (D.Is Ev a ∧ D.len a ≤ 1048576) (.ret (.bool (decide (atEv (D.to Ev a) (EvD.ev (EvD.mk k e)) ≥ 0)))) := by kernel_rfl
theorem eq_in : exec Try.prog [] 400 (entry Try.prog 69 [.dat a,.dat b]) =
 Tree.br ((↑(D.len a) : Int) != (↑(D.len b) : Int)) (.ret (.lb false)) (.leaf (Conf.mk (SFrm.mk 69 none none [Item.inLoop (cA 69 [1,1,0,1,0,0]),Item.inBlock 0,
 Item.code (cA 69 [1,1,1])] (mkJ 0 [(0,.dat a),(1,.dat b),(12,.int .i64 (↑(D.len a) : Int)),(13,.int .i64 0)] 0 26)) [] [])) := by kernel_rfl
end
def ieL (a : D) (k e j : Int) : Conf := Conf.mk (SFrm.mk 72 none none [Item.inLoop (cA 72 [1,0,1,0,0]),Item.inBlock 0,Item.code (cA 72 [1,1])] (mkJ 0 [(0,.dat a),(3,.ptr 0 0),(7,.int .i64 (a.len : Int)),(8,.int .i64 j)] 0 19)) [] [(0,OBlk.cells 79 [.int .i64 k,.int .i64 e])]
def eqL (a b : D) (j : Int) : Conf := Conf.mk (SFrm.mk 69 none none [Item.inLoop (cA 69 [1,1,0,1,0,0]),Item.inBlock 0,Item.code (cA 69 [1,1,1])] (mkJ 0 [(0,.dat a),(1,.dat b),(12,.int .i64 (a.len : Int)),(13,.int .i64 j)] 0 26)) [] []
section
variable (a b : D) (k e j : Int)
theorem ie_go : exec Try.prog [] 400 (unroll (ieL a k e j)) =
 Tree.br (decide (j < (↑(D.len a) : Int))) (.all fun hs=>.need (0 ≤ j ∧ j < (↑(D.len a) : Int) ∧ D.sz a = 2) (.need (D.HasCells a (Int.toNat j) 0 [FT.int .i64,FT.int
 .i64]) (.br (decide (k = D.getInt a (Int.toNat j) 0) && (decide (e = D.getInt a (Int.toNat j) 1) && true)) (.ret (.int .i64 j)) (.leaf (Conf.mk (SFrm.mk 72 none
 none [Item.inLoop (cA 72 [1,0,1,0,0]),Item.inBlock 0,Item.code (cA 72 [1,1])] (mkJ 0 [(0,.dat a),(3,.ptr 0 0),(7,.int .i64 (↑(D.len a) : Int)),
 (8,.int .i64 (IntKind.wrap .i64 (j + 1)))] 0 19)) [] [(0,OBlk.cells 79 [.int .i64 k,.int .i64 e])]))))) (.ret (.int .i64 (Int.neg 1))) := by kernel_rfl
theorem eq_go : exec Try.prog [] 400 (unroll (eqL a b j)) =
 Tree.br (decide (j < (↑(D.len a) : Int))) (.all fun hs=>.need (0 ≤ j ∧ j < (↑(D.len a) : Int) ∧ D.sz a = 1) (.need (D.HasCell a (Int.toNat j) 0 (FT.int .i64)) (.need
 (0 ≤ j ∧ j < (↑(D.len b) : Int) ∧ D.sz b = 1) (.need (D.HasCell b (Int.toNat j) 0 (FT.int .i64)) (.br (D.getInt a (Int.toNat j) 0 != D.getInt b (Int.toNat j) 0) (.ret
 (.lb false)) (.leaf (Conf.mk (SFrm.mk 69 none none [Item.inLoop (cA 69 [1,1,0,1,0,0]),Item.inBlock 0,Item.code (cA 69 [1,1,1])] (mkJ 0 [(0,.dat a),(1,
 .dat b),(12,.int .i64 (↑(D.len a) : Int)),(13,.int .i64 (IntKind.wrap .i64 (j + 1)))] 0 26)) [] []))))))) (.ret (.lb true)) := by kernel_rfl
end
theorem lawIxE : Law Try.prog 72 ((rdD.two rdEv).sp spAt) := by
 refine law_in _ (by kernel_rfl) fun H w ⟨d,⟨k,e⟩⟩ hok hp=>?_
 obtain ⟨hd,hlen⟩ := hp _ (List.mem_singleton.2 rfl)
 simp only at hd hlen
 have hl := D.Is.length (α := Ev) d
 apply exec_sound (noCtr _) 400
 rw [show (rdD.two rdEv).canon (d,⟨k,e⟩) = [.dat d,.agg [.int .i64 k,.int .i64 e]] from rfl,ie_in]
 refine runs_loop (fun j : Nat=>ieL d k e j) (fun j=>j ≤ (d.to Ev).length ∧ atEv ((d.to Ev).take j) ⟨k,e⟩ = -1) (fun j=>(d.to Ev).length - j) (fun _=>rfl) ?_ 0 ⟨Nat.zero_le _,by rw [List.take_zero]; rfl⟩
 intro j ⟨hj,hpre⟩ ih
 apply exec_sound (noCtr _) 400
 rw [ie_go]
 refine ⟨fun hc hs=>?_,fun hc=>ret_int ?_⟩
 ·have hc : j < (d.to Ev).length := by have := of_decide_eq_true hc; omega
  obtain ⟨c1,c2,c3⟩ := ev_cell hd hc
  refine ⟨⟨by omega,by omega,hd.size hc⟩,c1,fun h=>ret_int ?_,fun h=>?_⟩
  ·simp only [Int.toNat_natCast,c2,c3,Bool.and_true,Bool.and_eq_true,decide_eq_true_eq] at h
   exact (atEv_hit hc hpre (by rw [h.1,h.2])).symm
  ·have := ih (j + 1) ⟨hc,atEv_miss hc hpre (fun he=>by
    simp only [Int.toNat_natCast,c2,c3,Bool.and_true,he,decide_true] at h
    cases h)⟩ (by omega)
   rw [← wrap_succ hc (by omega)] at this
   exact this
 ·have := of_decide_eq_false hc
  have : j = (d.to Ev).length := by omega
  subst this
  rw [List.take_length] at hpre
  rw [show EvD.ev ⟨k,e⟩ = ⟨k,e⟩ from rfl,hpre]; rfl
def hasEv (l : List Ev) (x : Ev) : Bool := decide (x ∈ l)
def spCoE (x : D × EvD) : SpecR := .scalar [x.1.Is Ev ∧ x.1.len ≤ 1048576] (.bool (hasEv (x.1.to Ev) x.2.ev))
theorem ctIxEOk : Ctrs.Ok Try.prog [(72,ctrOf ((rdD.two rdEv).sp spAt))] := by
 intro x hx; rw [List.mem_singleton.1 hx]; exact ctrOf_ok lawIxE
theorem lawCoE : Law Try.prog 35 ((rdD.two rdEv).sp spCoE) := by
 refine law_in _ (by kernel_rfl) fun H w ⟨d,⟨k,e⟩⟩ hok hp=>?_
 obtain ⟨hd,hlen⟩ := hp _ (List.mem_singleton.2 rfl)
 simp only at hd hlen
 apply exec_sound ctIxEOk 400
 rw [show (rdD.two rdEv).canon (d,⟨k,e⟩) = [.dat d,.agg [.int .i64 k,.int .i64 e]] from rfl,ce_in]
 refine ⟨⟨hd,hlen⟩,ret_bool ?_⟩
 unfold hasEv
 rw [decide_eq_decide]
 rcases atEv_cases (d.to Ev) (EvD.ev ⟨k,e⟩) with ⟨a,b⟩ | ⟨a,_,b⟩
 ·exact ⟨fun h=>by omega,fun h=>absurd h b⟩
 ·exact ⟨fun _=>b,fun _=>a⟩
theorem lawEqI : Law Try.prog 69 ((rdD.two rdD).sp spInts) := by
 refine law_in _ (by kernel_rfl) fun H w ⟨a,b⟩ hok hp=>?_
 obtain ⟨ha,hb,hlen⟩ := hp _ (List.mem_singleton.2 rfl)
 simp only at ha hb hlen
 have hla := D.Is.length (α := Int) a
 have hlb := D.Is.length (α := Int) b
 apply exec_sound (noCtr _) 400
 rw [show (rdD.two rdD).canon (a,b) = [.dat a,.dat b] from rfl,eq_in]
 refine ⟨fun hc=>ret_lb ?_,fun hc=>?_⟩
 ·exact same_not fun he=>by simp [hla,hlb,he] at hc
 have hc' : (a.to Int).length = (b.to Int).length := by simp [hla,hlb] at hc; omega
 refine runs_loop (fun j : Nat=>eqL a b j) (fun j=>j ≤ (a.to Int).length ∧ (a.to Int).take j = (b.to Int).take j) (fun j=>(a.to Int).length - j) (fun _=>rfl) ?_ 0 ⟨Nat.zero_le _,rfl⟩
 intro j ⟨hj,hpre⟩ ih
 apply exec_sound (noCtr _) 400
 rw [eq_go]
 refine ⟨fun hc hs=>?_,fun hc=>ret_lb ?_⟩
 ·have hc : j < (a.to Int).length := by have := of_decide_eq_true hc; omega
  obtain ⟨c1,c2,c3⟩ := int_at ha hc
  obtain ⟨e1,e2,e3⟩ := int_at hb (hc' ▸ hc)
  refine ⟨c1,c2,e1,e2,fun h=>ret_lb ?_,fun h=>?_⟩
  ·refine same_not fun he=>?_
   simp only [c3,e3,he,bne_self_eq_false] at h
   cases h
  ·have hx : (a.to Int)[j] = (b.to Int)[j]'(hc' ▸ hc) := by rw [c3,e3] at h; simpa using h
   have := ih (j + 1) ⟨hc,take_succ_eq hc (hc' ▸ hc) hpre hx⟩ (by omega)
   rw [← wrap_succ hc (by omega)] at this
   exact this
 ·have := of_decide_eq_false hc
  exact (decide_eq_true (list_eq_of hc' (by omega) hpre)).symm
def ctGd : Ctrs := (35,ctrOf ((rdD.two rdEv).sp spCoE)) :: ctGr
def gd10L (l : D) (pa : Int) (last : D) (j w now : Int) (c : Co) (pd sd mb zd wd ed ms n0 : D) (h : Hist) : Conf := Conf.mk (SFrm.mk 6 none none [Item.inLoop (cA 6 [1,1,1,1,0,1,0,0,1,1,0,0,1,1,1,1,0,0,1,1,0,0,1,1,0,0]),Item.inBlock 6,Item.inBlock 5,Item.code (cA 6 [1,1,1,1,0,1,0,0,1,1,0,0,1,1,1,1,0,0,1,1,1]),Item.inLoop (cA 6 [1,1,1,1,0,1,0,0,1,1,0,0,1,1,1,1,0,0]),Item.inBlock 4,Item.inBlock 1,Item.code (cA 6 [1,1,1,1,0,1,0,0,1,1,1]),Item.inLoop (cA 6 [1,1,1,1,0,1,0,0]),Item.inBlock 0,Item.code (cA 6 [1,1,1,1,1])] (mkJ 0 [(1,.int .u8 pa),(7,.ptr 100000 0),(9,.dat last),(16,.ptr 1 0),(40,.dat l),(41,.int .i64 (l.len : Int)),(42,.int .i64 j),(88,.vec 2),(89,.int .i64 (mb.len : Int)),(90,.int .i64 0),(101,.vec 3),(102,.int .i64 (n0.len : Int)),(103,.int .i64 w)] 0 133)) [] [(1,OBlk.cells 28 [.int .i64 (D.getInt mb 0 0),.int .i64 (D.getInt mb 0 1),.int .i64 (D.getInt mb 0 2),.int .i64 (D.getInt mb 0 3),.bool (D.getBool mb 0 4),.int .i64 (D.getInt mb 0 5),.dat (D.cell mb 0 6),.dat (D.cell mb 0 7)]),(2,OBlk.arr 28 mb),(3,OBlk.arr 3 n0),(5,OBlk.arr 50 ms),(100000,noC 2 5 1 now c pd sd zd wd ed h),(100001,OBlk.cells 22 [.vec 3])]
def gd20L (l : D) (pa : Int) (last : D) (j w now : Int) (c : Co) (pd sd mb zd wd ed ms n0 n1 : D) (h : Hist) : Conf := Conf.mk (SFrm.mk 6 none none [Item.inLoop (cA 6 [1,1,1,1,0,1,0,0,1,1,0,0,1,1,1,1,0,0,1,1,0,0,1,1,0,0]),Item.inBlock 6,Item.inBlock 5,Item.code (cA 6 [1,1,1,1,0,1,0,0,1,1,0,0,1,1,1,1,0,0,1,1,1]),Item.inLoop (cA 6 [1,1,1,1,0,1,0,0,1,1,0,0,1,1,1,1,0,0]),Item.inBlock 4,Item.inBlock 1,Item.code (cA 6 [1,1,1,1,0,1,0,0,1,1,1]),Item.inLoop (cA 6 [1,1,1,1,0,1,0,0]),Item.inBlock 0,Item.code (cA 6 [1,1,1,1,1])] (mkJ 0 [(1,.int .u8 pa),(7,.ptr 100000 0),(9,.dat last),(16,.ptr 1 0),(40,.dat l),(41,.int .i64 (l.len : Int)),(42,.int .i64 j),(88,.vec 2),(89,.int .i64 (mb.len : Int)),(90,.int .i64 0),(101,.vec 3),(102,.int .i64 (n0.len : Int)),(103,.int .i64 w)] 0 133)) [] [(1,OBlk.cells 28 [.int .i64 (D.getInt mb 0 0),.int .i64 (D.getInt mb 0 1),.int .i64 (D.getInt mb 0 2),.int .i64 (D.getInt mb 0 3),.bool (D.getBool mb 0 4),.int .i64 (D.getInt mb 0 5),.dat (D.cell mb 0 6),.dat (D.cell mb 0 7)]),(2,OBlk.arr 28 mb),(3,OBlk.arr 3 n0),(5,OBlk.arr 50 ms),(6,OBlk.arr 3 n1),(100000,noC 2 5 2 now c pd sd zd wd ed h),(100001,OBlk.cells 22 [.vec 3,.vec 6])]
def gd21L (l : D) (pa : Int) (last : D) (j w now : Int) (c : Co) (pd sd mb zd wd ed ms n0 n1 : D) (h : Hist) : Conf := Conf.mk (SFrm.mk 6 none none [Item.inLoop (cA 6 [1,1,1,1,0,1,0,0,1,1,0,0,1,1,1,1,0,0,1,1,0,0,1,1,0,0]),Item.inBlock 6,Item.inBlock 5,Item.code (cA 6 [1,1,1,1,0,1,0,0,1,1,0,0,1,1,1,1,0,0,1,1,1]),Item.inLoop (cA 6 [1,1,1,1,0,1,0,0,1,1,0,0,1,1,1,1,0,0]),Item.inBlock 4,Item.inBlock 1,Item.code (cA 6 [1,1,1,1,0,1,0,0,1,1,1]),Item.inLoop (cA 6 [1,1,1,1,0,1,0,0]),Item.inBlock 0,Item.code (cA 6 [1,1,1,1,1])] (mkJ 0 [(1,.int .u8 pa),(7,.ptr 100000 0),(9,.dat last),(16,.ptr 1 0),(40,.dat l),(41,.int .i64 (l.len : Int)),(42,.int .i64 j),(88,.vec 2),(89,.int .i64 (mb.len : Int)),(90,.int .i64 1),(101,.vec 3),(102,.int .i64 (n1.len : Int)),(103,.int .i64 w)] 0 133)) [] [(1,OBlk.cells 28 [.int .i64 (D.getInt mb 1 0),.int .i64 (D.getInt mb 1 1),.int .i64 (D.getInt mb 1 2),.int .i64 (D.getInt mb 1 3),.bool (D.getBool mb 1 4),.int .i64 (D.getInt mb 1 5),.dat (D.cell mb 1 6),.dat (D.cell mb 1 7)]),(2,OBlk.arr 28 mb),(3,OBlk.arr 3 n1),(5,OBlk.arr 50 ms),(6,OBlk.arr 3 n0),(100000,noC 2 5 2 now c pd sd zd wd ed h),(100001,OBlk.cells 22 [.vec 6,.vec 3])]
def gd30L (l : D) (pa : Int) (last : D) (j w now : Int) (c : Co) (pd sd mb zd wd ed ms n0 n1 n2 : D) (h : Hist) : Conf := Conf.mk (SFrm.mk 6 none none [Item.inLoop (cA 6 [1,1,1,1,0,1,0,0,1,1,0,0,1,1,1,1,0,0,1,1,0,0,1,1,0,0]),Item.inBlock 6,Item.inBlock 5,Item.code (cA 6 [1,1,1,1,0,1,0,0,1,1,0,0,1,1,1,1,0,0,1,1,1]),Item.inLoop (cA 6 [1,1,1,1,0,1,0,0,1,1,0,0,1,1,1,1,0,0]),Item.inBlock 4,Item.inBlock 1,Item.code (cA 6 [1,1,1,1,0,1,0,0,1,1,1]),Item.inLoop (cA 6 [1,1,1,1,0,1,0,0]),Item.inBlock 0,Item.code (cA 6 [1,1,1,1,1])] (mkJ 0 [(1,.int .u8 pa),(7,.ptr 100000 0),(9,.dat last),(16,.ptr 1 0),(40,.dat l),(41,.int .i64 (l.len : Int)),(42,.int .i64 j),(88,.vec 2),(89,.int .i64 (mb.len : Int)),(90,.int .i64 0),(101,.vec 3),(102,.int .i64 (n0.len : Int)),(103,.int .i64 w)] 0 133)) [] [(1,OBlk.cells 28 [.int .i64 (D.getInt mb 0 0),.int .i64 (D.getInt mb 0 1),.int .i64 (D.getInt mb 0 2),.int .i64 (D.getInt mb 0 3),.bool (D.getBool mb 0 4),.int .i64 (D.getInt mb 0 5),.dat (D.cell mb 0 6),.dat (D.cell mb 0 7)]),(2,OBlk.arr 28 mb),(3,OBlk.arr 3 n0),(5,OBlk.arr 50 ms),(6,OBlk.arr 3 n1),(7,OBlk.arr 3 n2),(100000,noC 2 5 3 now c pd sd zd wd ed h),(100001,OBlk.cells 22 [.vec 3,.vec 6,.vec 7])]
def gd31L (l : D) (pa : Int) (last : D) (j w now : Int) (c : Co) (pd sd mb zd wd ed ms n0 n1 n2 : D) (h : Hist) : Conf := Conf.mk (SFrm.mk 6 none none [Item.inLoop (cA 6 [1,1,1,1,0,1,0,0,1,1,0,0,1,1,1,1,0,0,1,1,0,0,1,1,0,0]),Item.inBlock 6,Item.inBlock 5,Item.code (cA 6 [1,1,1,1,0,1,0,0,1,1,0,0,1,1,1,1,0,0,1,1,1]),Item.inLoop (cA 6 [1,1,1,1,0,1,0,0,1,1,0,0,1,1,1,1,0,0]),Item.inBlock 4,Item.inBlock 1,Item.code (cA 6 [1,1,1,1,0,1,0,0,1,1,1]),Item.inLoop (cA 6 [1,1,1,1,0,1,0,0]),Item.inBlock 0,Item.code (cA 6 [1,1,1,1,1])] (mkJ 0 [(1,.int .u8 pa),(7,.ptr 100000 0),(9,.dat last),(16,.ptr 1 0),(40,.dat l),(41,.int .i64 (l.len : Int)),(42,.int .i64 j),(88,.vec 2),(89,.int .i64 (mb.len : Int)),(90,.int .i64 1),(101,.vec 3),(102,.int .i64 (n1.len : Int)),(103,.int .i64 w)] 0 133)) [] [(1,OBlk.cells 28 [.int .i64 (D.getInt mb 1 0),.int .i64 (D.getInt mb 1 1),.int .i64 (D.getInt mb 1 2),.int .i64 (D.getInt mb 1 3),.bool (D.getBool mb 1 4),.int .i64 (D.getInt mb 1 5),.dat (D.cell mb 1 6),.dat (D.cell mb 1 7)]),(2,OBlk.arr 28 mb),(3,OBlk.arr 3 n1),(5,OBlk.arr 50 ms),(6,OBlk.arr 3 n0),(7,OBlk.arr 3 n2),(100000,noC 2 5 3 now c pd sd zd wd ed h),(100001,OBlk.cells 22 [.vec 6,.vec 3,.vec 7])]
def gd32L (l : D) (pa : Int) (last : D) (j w now : Int) (c : Co) (pd sd mb zd wd ed ms n0 n1 n2 : D) (h : Hist) : Conf := Conf.mk (SFrm.mk 6 none none [Item.inLoop (cA 6 [1,1,1,1,0,1,0,0,1,1,0,0,1,1,1,1,0,0,1,1,0,0,1,1,0,0]),Item.inBlock 6,Item.inBlock 5,Item.code (cA 6 [1,1,1,1,0,1,0,0,1,1,0,0,1,1,1,1,0,0,1,1,1]),Item.inLoop (cA 6 [1,1,1,1,0,1,0,0,1,1,0,0,1,1,1,1,0,0]),Item.inBlock 4,Item.inBlock 1,Item.code (cA 6 [1,1,1,1,0,1,0,0,1,1,1]),Item.inLoop (cA 6 [1,1,1,1,0,1,0,0]),Item.inBlock 0,Item.code (cA 6 [1,1,1,1,1])] (mkJ 0 [(1,.int .u8 pa),(7,.ptr 100000 0),(9,.dat last),(16,.ptr 1 0),(40,.dat l),(41,.int .i64 (l.len : Int)),(42,.int .i64 j),(88,.vec 2),(89,.int .i64 (mb.len : Int)),(90,.int .i64 2),(101,.vec 3),(102,.int .i64 (n2.len : Int)),(103,.int .i64 w)] 0 133)) [] [(1,OBlk.cells 28 [.int .i64 (D.getInt mb 2 0),.int .i64 (D.getInt mb 2 1),.int .i64 (D.getInt mb 2 2),.int .i64 (D.getInt mb 2 3),.bool (D.getBool mb 2 4),.int .i64 (D.getInt mb 2 5),.dat (D.cell mb 2 6),.dat (D.cell mb 2 7)]),(2,OBlk.arr 28 mb),(3,OBlk.arr 3 n2),(5,OBlk.arr 50 ms),(6,OBlk.arr 3 n0),(7,OBlk.arr 3 n1),(100000,noC 2 5 3 now c pd sd zd wd ed h),(100001,OBlk.cells 22 [.vec 6,.vec 7,.vec 3])]
section
variable (now pa j w : Int) (c : Co) (pd sd mb zd wd ed ms l last n0 n1 n2 : D) (h : Hist)
theorem gd10_go : 
 let z1 := (mkJ 0 [(1,.int .u8 pa),(7,.ptr 100000 0),(9,.dat last),(16,.ptr 1 0),(40,.dat l),(41,.int .i64 (↑(D.len l) : Int)),(42,.int .i64 j),(88,.vec 2),(89,.int .i64 (↑(D.len mb) : Int)),(90,.int .i64 0),(101,.vec 3),(102,.int .i64 (↑(D.len n0) : Int)),(103,.int .i64 (IntKind.wrap .i64 (w + 1)))] 0 133)
 let z2 := (cA 6 [1,1,1,1,0,1,0,0,1,1,0,0,1,1,1,1,0,0,1,1,0,0,1,1,0,0])
 let z3 := (cA 6 [1,1,1,1,0,1,0,0,1,1,0,0,1,1,1,1,0,0])
 let z4 : List SV := [.int .i64 (D.getInt mb 0 0),.int .i64 (D.getInt mb 0 1),.int .i64 (D.getInt mb 0 2),.int .i64 (D.getInt mb 0 3),.bool (D.getBool mb 0 4),.int .i64 (D.getInt mb 0 5),.dat (D.cell mb 0 6),.dat (D.cell mb 0 7)]
 let z5 := (cA 6 [1,1,1,1,0,1,0,0,1,1,1])
 let z6 := (likeEv ed (Hist.events h))
 let z7 := (cA 6 [1,1,1,1,0,1,0,0])
 let z8 := (cA 6 [1,1,1,1,0,1,0,0,1,1,0,0,1,1,1,1,0,0,1,1,0,0,1,1,0,0,1,1,1])
 let z9 := (cAt Try.prog 6 [1,1,1,1,0,1,0,0,1,1,0,0,1,1,1,1,0,0,1,1,1])
 let z10 := (cA 6 [1,1,1,1,0,1,0,0,1,1,0,0,1,1,1,1,0,0,1,1,1])
 execRE Try.prog ctGd [33] 400 (unroll (gd10L l pa last j w now c pd sd mb zd wd ed ms n0 h)) =
 Tree.br (decide (w < (↑(D.len n0) : Int))) (.need (0 ≤ w ∧ w < (↑(D.len n0) : Int) ∧ D.sz n0 = 1) (.need (D.HasCell n0 (Int.toNat w) 0 (FT.int .i64) ∧ D.sz n0 = 1) (.need (D.Is Int (D.cell mb 0 6) ∧ D.len
 (D.cell mb 0 6) ≤ 1048576) (.br (List.contains (D.to Int (D.cell mb 0 6)) w) (.need (D.Is Ev z6 ∧ D.len z6 ≤ 1048576) (.br (decide (true = hasEv (D.to Ev z6) (EvD.ev (EvD.mk 1 (D.getInt n0 (Int.toNat w) 0)))))
 (.leaf (Conf.mk (SFrm.mk 6 none none [Item.code (cA 6 [1,1,0,1,0,1]),Item.inBlock 7,Item.code z8,Item.inLoop z2,Item.inBlock 6,Item.inBlock 5,Item.code z10,Item.inLoop z3,Item.inBlock 4,Item.inBlock 1,Item.code z5,Item.inLoop z7,Item.inBlock 0,Item.code
 (cA 6 [1,1,1,1,1])] (mkJ 0 [(6,.lb false)] 0 133)) [] [(0,OBlk.arr 28 mb),(1,OBlk.arr 3 n0),(2,OBlk.arr 50 ms),(100000,noC 0 2 1 now c pd sd zd wd ed h),(100001,OBlk.cells 22 [.vec 1])]))
 (.leaf (Conf.mk (SFrm.mk 6 none none [Item.inLoop z2,Item.inBlock 6,Item.inBlock 5,Item.code z10,Item.inLoop z3,Item.inBlock 4,Item.inBlock 1,Item.code z5,Item.inLoop z7,Item.inBlock 0,Item.code
 (cA 6 [1,1,1,1,1])] z1) [] [(1,OBlk.cells 28 z4),(2,OBlk.arr 28 mb),(3,OBlk.arr 3 n0),(5,OBlk.arr 50 ms),(100000,noC 2 5 1 now c pd sd zd wd ed h),(100001,OBlk.cells 22 [.vec 3])])))) (.need
 (D.Is Int (D.cell mb 0 7) ∧ D.len (D.cell mb 0 7) ≤ 1048576) (.need (D.Is Ev z6 ∧ D.len z6 ≤ 1048576) (.br (decide (List.contains (D.to Int (D.cell mb 0 7)) w = hasEv (D.to Ev z6) (EvD.ev (EvD.mk 1 (D.getInt n0
 (Int.toNat w) 0))))) (.leaf (Conf.mk (SFrm.mk 6 none none [Item.code (cA 6 [1,1,0,1,0,1]),Item.inBlock 7,Item.code z8,Item.inLoop z2,Item.inBlock 6,Item.inBlock 5,Item.code z9,Item.inLoop z3,Item.inBlock 4,Item.inBlock 1,Item.code z5,Item.inLoop z7,Item.inBlock 0,Item.code
 (cA 6 [1,1,1,1,1])] (mkJ 0 [(6,.lb false)] 0 133)) [] [(0,OBlk.arr 28 mb),(1,OBlk.arr 3 n0),(2,OBlk.arr 50 ms),(100000,noC 0 2 1 now c pd sd zd wd ed h),(100001,OBlk.cells 22 [.vec 1])]))
 (.leaf (Conf.mk (SFrm.mk 6 none none [Item.inLoop z2,Item.inBlock 6,Item.inBlock 5,Item.code z9,Item.inLoop z3,Item.inBlock 4,Item.inBlock 1,Item.code z5,Item.inLoop z7,Item.inBlock 0,Item.code
 (cA 6 [1,1,1,1,1])] z1) [] [(1,OBlk.cells 28 z4),(2,OBlk.arr 28 mb),(3,OBlk.arr 3 n0),(5,OBlk.arr 50 ms),(100000,noC 2 5 1 now c pd sd zd wd ed h),(100001,OBlk.cells 22 [.vec 3])])))))))))
 (.leaf (Conf.mk (SFrm.mk 6 none none [Item.inLoop z3,Item.inBlock 4,Item.inBlock 1,Item.code z5,Item.inLoop z7,Item.inBlock 0,Item.code (cA 6 [1,1,1,1,1])] (mkJ 0 [(1,.int .u8 pa),(7,.ptr 100000 0),
 (9,.dat last),(40,.dat l),(41,.int .i64 (↑(D.len l) : Int)),(42,.int .i64 j),(88,.vec 1),(89,.int .i64 (↑(D.len mb) : Int)),(90,.int .i64 (IntKind.wrap .i64 (0 + 1)))] 0 133)) [] [(1,OBlk.arr 28 mb),
 (3,OBlk.arr 50 ms),(4,OBlk.arr 3 n0),(100000,noC 1 3 1 now c pd sd zd wd ed h),(100001,OBlk.cells 22 [.vec 4])])) := by
 intros; kernel_rfl
theorem gd20_go : 
 let z3 := (likeEv ed (Hist.events h))
 let z4 := (cA 6 [1,1,1,1,0,1,0,0,1,1,0,0,1,1,1,1,0,0])
 let z5 := (cA 6 [1,1,1,1,0,1,0,0,1,1,0,0,1,1,1,1,0,0,1,1,0,0,1,1,0,0])
 let z6 := (cA 6 [1,1,1,1,0,1,0,0,1,1,1])
 let z7 := (cA 6 [1,1,1,1,0,1,0,0,1,1,0,0,1,1,1,1,0,0,1,1,1])
 let z8 := (cA 6 [1,1,1,1,0,1,0,0])
 let z1 : Tree := (.leaf (Conf.mk (SFrm.mk 6 none none [Item.inLoop z5,Item.inBlock 6,Item.inBlock 5,Item.code z7,Item.inLoop z4,Item.inBlock 4,Item.inBlock 1,Item.code z6,Item.inLoop z8,Item.inBlock 0,Item.code (cA 6 [1,1,1,1,1])] (mkJ 0 [(1,.int .u8 pa),(7,.ptr 100000 0),(9,.dat last),(16,.ptr 1 0),(40,.dat l),(41,.int .i64 (↑(D.len l) : Int)),(42,.int .i64 j),(88,.vec 2),(89,.int .i64 (↑(D.len mb) : Int)),(90,.int .i64 0),(101,.vec 3),(102,.int .i64 (↑(D.len n0) : Int)),(103,.int .i64 (IntKind.wrap .i64 (w + 1)))] 0 133)) [] [(1,OBlk.cells 28 [.int .i64 (D.getInt mb 0 0),.int .i64 (D.getInt mb 0 1),.int .i64 (D.getInt mb 0 2),.int .i64 (D.getInt mb 0 3),.bool (D.getBool mb 0 4),.int .i64 (D.getInt mb 0 5),.dat (D.cell mb 0 6),.dat (D.cell mb 0 7)]),(2,OBlk.arr 28 mb),(3,OBlk.arr 3 n0),(5,OBlk.arr 50 ms),(6,OBlk.arr 3 n1),(100000,noC 2 5 2 now c pd sd zd wd ed h),(100001,OBlk.cells 22 [.vec 3,.vec 6])]))
 let z2 : Tree := (.leaf (Conf.mk (SFrm.mk 6 none none [Item.code (cA 6 [1,1,0,1,0,1]),Item.inBlock 7,Item.code (cA 6 [1,1,1,1,0,1,0,0,1,1,0,0,1,1,1,1,0,0,1,1,0,0,1,1,0,0,1,1,1]),Item.inLoop z5,Item.inBlock 6,Item.inBlock 5,Item.code z7,Item.inLoop z4,Item.inBlock 4,Item.inBlock 1,Item.code z6,Item.inLoop z8,Item.inBlock 0,Item.code (cA 6 [1,1,1,1,1])] (mkJ 0 [(6,.lb false)] 0 133)) [] [(0,OBlk.arr 28 mb),(1,OBlk.arr 3 n0),(2,OBlk.arr 50 ms),(3,OBlk.arr 3 n1),(100000,noC 0 2 2 now c pd sd zd wd ed h),(100001,OBlk.cells 22 [.vec 1,.vec 3])]))
 execRE Try.prog ctGd [33] 400 (unroll (gd20L l pa last j w now c pd sd mb zd wd ed ms n0 n1 h)) =
 Tree.br (decide (w < (↑(D.len n0) : Int))) (.need (0 ≤ w ∧ w < (↑(D.len n0) : Int) ∧ D.sz n0 = 1) (.need (D.HasCell n0 (Int.toNat w) 0 (FT.int .i64) ∧ D.sz n0 = 1) (.need (D.Is Int (D.cell mb 0 6) ∧ D.len
 (D.cell mb 0 6) ≤ 1048576) (.br (List.contains (D.to Int (D.cell mb 0 6)) w) (.need (D.Is Ev z3 ∧ D.len z3 ≤ 1048576) (.br (decide (true = hasEv (D.to Ev z3) (EvD.ev (EvD.mk 1 (D.getInt n0 (Int.toNat w) 0))))) z2 z1))
 (.need (D.Is Int (D.cell mb 0 7) ∧ D.len (D.cell mb 0 7) ≤ 1048576) (.need (D.Is Ev z3 ∧ D.len z3 ≤ 1048576) (.br (decide (List.contains (D.to Int (D.cell mb 0 7)) w = hasEv (D.to Ev z3) (EvD.ev (EvD.mk 1
 (D.getInt n0 (Int.toNat w) 0))))) z2 z1))))))) (.leaf (Conf.mk (SFrm.mk 6 none none [Item.inLoop z4,Item.inBlock 4,Item.inBlock 1,Item.code z6,Item.inLoop z8,Item.inBlock 0,Item.code (cA 6 [1,1,1,1,1])]
 (mkJ 0 [(1,.int .u8 pa),(7,.ptr 100000 0),(9,.dat last),(40,.dat l),(41,.int .i64 (↑(D.len l) : Int)),(42,.int .i64 j),(88,.vec 1),(89,.int .i64 (↑(D.len mb) : Int)),(90,.int .i64 (IntKind.wrap .i64
 (0 + 1)))] 0 133)) [] [(1,OBlk.arr 28 mb),(3,OBlk.arr 50 ms),(4,OBlk.arr 3 n0),(5,OBlk.arr 3 n1),(100000,noC 1 3 2 now c pd sd zd wd ed h),(100001,OBlk.cells 22 [.vec 4,.vec 5])])) := by
 intros; kernel_rfl
theorem gd21_go : 
 let z3 := (likeEv ed (Hist.events h))
 let z4 := (cA 6 [1,1,1,1,0,1,0,0,1,1,0,0,1,1,1,1,0,0])
 let z5 := (cA 6 [1,1,1,1,0,1,0,0,1,1,0,0,1,1,1,1,0,0,1,1,0,0,1,1,0,0])
 let z6 := (cA 6 [1,1,1,1,0,1,0,0,1,1,1])
 let z7 := (cA 6 [1,1,1,1,0,1,0,0,1,1,0,0,1,1,1,1,0,0,1,1,1])
 let z8 := (cA 6 [1,1,1,1,0,1,0,0])
 let z1 : Tree := (.leaf (Conf.mk (SFrm.mk 6 none none [Item.inLoop z5,Item.inBlock 6,Item.inBlock 5,Item.code z7,Item.inLoop z4,Item.inBlock 4,Item.inBlock 1,Item.code z6,Item.inLoop z8,Item.inBlock 0,Item.code (cA 6 [1,1,1,1,1])] (mkJ 0 [(1,.int .u8 pa),(7,.ptr 100000 0),(9,.dat last),(16,.ptr 1 0),(40,.dat l),(41,.int .i64 (↑(D.len l) : Int)),(42,.int .i64 j),(88,.vec 2),(89,.int .i64 (↑(D.len mb) : Int)),(90,.int .i64 1),(101,.vec 3),(102,.int .i64 (↑(D.len n1) : Int)),(103,.int .i64 (IntKind.wrap .i64 (w + 1)))] 0 133)) [] [(1,OBlk.cells 28 [.int .i64 (D.getInt mb 1 0),.int .i64 (D.getInt mb 1 1),.int .i64 (D.getInt mb 1 2),.int .i64 (D.getInt mb 1 3),.bool (D.getBool mb 1 4),.int .i64 (D.getInt mb 1 5),.dat (D.cell mb 1 6),.dat (D.cell mb 1 7)]),(2,OBlk.arr 28 mb),(3,OBlk.arr 3 n1),(5,OBlk.arr 50 ms),(6,OBlk.arr 3 n0),(100000,noC 2 5 2 now c pd sd zd wd ed h),(100001,OBlk.cells 22 [.vec 6,.vec 3])]))
 let z2 : Tree := (.leaf (Conf.mk (SFrm.mk 6 none none [Item.code (cA 6 [1,1,0,1,0,1]),Item.inBlock 7,Item.code (cA 6 [1,1,1,1,0,1,0,0,1,1,0,0,1,1,1,1,0,0,1,1,0,0,1,1,0,0,1,1,1]),Item.inLoop z5,Item.inBlock 6,Item.inBlock 5,Item.code z7,Item.inLoop z4,Item.inBlock 4,Item.inBlock 1,Item.code z6,Item.inLoop z8,Item.inBlock 0,Item.code (cA 6 [1,1,1,1,1])] (mkJ 0 [(6,.lb false)] 0 133)) [] [(0,OBlk.arr 28 mb),(1,OBlk.arr 3 n1),(2,OBlk.arr 50 ms),(3,OBlk.arr 3 n0),(100000,noC 0 2 2 now c pd sd zd wd ed h),(100001,OBlk.cells 22 [.vec 3,.vec 1])]))
 execRE Try.prog ctGd [33] 400 (unroll (gd21L l pa last j w now c pd sd mb zd wd ed ms n0 n1 h)) =
 Tree.br (decide (w < (↑(D.len n1) : Int))) (.need (0 ≤ w ∧ w < (↑(D.len n1) : Int) ∧ D.sz n1 = 1) (.need (D.HasCell n1 (Int.toNat w) 0 (FT.int .i64) ∧ D.sz n1 = 1) (.need (D.Is Int (D.cell mb 1 6) ∧ D.len
 (D.cell mb 1 6) ≤ 1048576) (.br (List.contains (D.to Int (D.cell mb 1 6)) w) (.need (D.Is Ev z3 ∧ D.len z3 ≤ 1048576) (.br (decide (true = hasEv (D.to Ev z3) (EvD.ev (EvD.mk 1 (D.getInt n1 (Int.toNat w) 0))))) z2 z1))
 (.need (D.Is Int (D.cell mb 1 7) ∧ D.len (D.cell mb 1 7) ≤ 1048576) (.need (D.Is Ev z3 ∧ D.len z3 ≤ 1048576) (.br (decide (List.contains (D.to Int (D.cell mb 1 7)) w = hasEv (D.to Ev z3) (EvD.ev (EvD.mk 1
 (D.getInt n1 (Int.toNat w) 0))))) z2 z1))))))) (.leaf (Conf.mk (SFrm.mk 6 none none [Item.inLoop z4,Item.inBlock 4,Item.inBlock 1,Item.code z6,Item.inLoop z8,Item.inBlock 0,Item.code (cA 6 [1,1,1,1,1])]
 (mkJ 0 [(1,.int .u8 pa),(7,.ptr 100000 0),(9,.dat last),(40,.dat l),(41,.int .i64 (↑(D.len l) : Int)),(42,.int .i64 j),(88,.vec 1),(89,.int .i64 (↑(D.len mb) : Int)),(90,.int .i64 (IntKind.wrap .i64
 (1 + 1)))] 0 133)) [] [(1,OBlk.arr 28 mb),(3,OBlk.arr 50 ms),(4,OBlk.arr 3 n0),(5,OBlk.arr 3 n1),(100000,noC 1 3 2 now c pd sd zd wd ed h),(100001,OBlk.cells 22 [.vec 4,.vec 5])])) := by
 intros; kernel_rfl
theorem gd30_go : 
 let z3 := (likeEv ed (Hist.events h))
 let z4 := (cA 6 [1,1,1,1,0,1,0,0,1,1,0,0,1,1,1,1,0,0])
 let z5 := (cA 6 [1,1,1,1,0,1,0,0,1,1,0,0,1,1,1,1,0,0,1,1,0,0,1,1,0,0])
 let z6 := (cA 6 [1,1,1,1,0,1,0,0,1,1,1])
 let z7 := (cA 6 [1,1,1,1,0,1,0,0,1,1,0,0,1,1,1,1,0,0,1,1,1])
 let z8 := (cA 6 [1,1,1,1,0,1,0,0])
 let z1 : Tree := (.leaf (Conf.mk (SFrm.mk 6 none none [Item.inLoop z5,Item.inBlock 6,Item.inBlock 5,Item.code z7,Item.inLoop z4,Item.inBlock 4,Item.inBlock 1,Item.code z6,Item.inLoop z8,Item.inBlock 0,Item.code (cAt Try.prog 6 [1,1,1,1,1])] (mkJ 0 [(1,.int .u8 pa),(7,.ptr 100000 0),(9,.dat last),(16,.ptr 1 0),(40,.dat l),(41,.int .i64 (↑(D.len l) : Int)),(42,.int .i64 j),(88,.vec 2),(89,.int .i64 (↑(D.len mb) : Int)),(90,.int .i64 0),(101,.vec 3),(102,.int .i64 (↑(D.len n0) : Int)),(103,.int .i64 (IntKind.wrap .i64 (w + 1)))] 0 133)) [] [(1,OBlk.cells 28 [.int .i64 (D.getInt mb 0 0),.int .i64 (D.getInt mb 0 1),.int .i64 (D.getInt mb 0 2),.int .i64 (D.getInt mb 0 3),.bool (D.getBool mb 0 4),.int .i64 (D.getInt mb 0 5),.dat (D.cell mb 0 6),.dat (D.cell mb 0 7)]),(2,OBlk.arr 28 mb),(3,OBlk.arr 3 n0),(5,OBlk.arr 50 ms),(6,OBlk.arr 3 n1),(7,OBlk.arr 3 n2),(100000,noC 2 5 3 now c pd sd zd wd ed h),(100001,OBlk.cells 22 [.vec 3,.vec 6,.vec 7])]))
 let z2 : Tree := (.leaf (Conf.mk (SFrm.mk 6 none none [Item.code (cA 6 [1,1,0,1,0,1]),Item.inBlock 7,Item.code (cA 6 [1,1,1,1,0,1,0,0,1,1,0,0,1,1,1,1,0,0,1,1,0,0,1,1,0,0,1,1,1]),Item.inLoop z5,Item.inBlock 6,Item.inBlock 5,Item.code z7,Item.inLoop z4,Item.inBlock 4,Item.inBlock 1,Item.code z6,Item.inLoop z8,Item.inBlock 0,Item.code (cA 6 [1,1,1,1,1])] (mkJ 0 [(6,.lb false)] 0 133)) [] [(0,OBlk.arr 28 mb),(1,OBlk.arr 3 n0),(2,OBlk.arr 50 ms),(3,OBlk.arr 3 n1),(4,OBlk.arr 3 n2),(100000,noC 0 2 3 now c pd sd zd wd ed h),(100001,OBlk.cells 22 [.vec 1,.vec 3,.vec 4])]))
 execRE Try.prog ctGd [33] 400 (unroll (gd30L l pa last j w now c pd sd mb zd wd ed ms n0 n1 n2 h)) =
 Tree.br (decide (w < (↑(D.len n0) : Int))) (.need (0 ≤ w ∧ w < (↑(D.len n0) : Int) ∧ D.sz n0 = 1) (.need (D.HasCell n0 (Int.toNat w) 0 (FT.int .i64) ∧ D.sz n0 = 1) (.need (D.Is Int (D.cell mb 0 6) ∧ D.len
 (D.cell mb 0 6) ≤ 1048576) (.br (List.contains (D.to Int (D.cell mb 0 6)) w) (.need (D.Is Ev z3 ∧ D.len z3 ≤ 1048576) (.br (decide (true = hasEv (D.to Ev z3) (EvD.ev (EvD.mk 1 (D.getInt n0 (Int.toNat w) 0))))) z2 z1))
 (.need (D.Is Int (D.cell mb 0 7) ∧ D.len (D.cell mb 0 7) ≤ 1048576) (.need (D.Is Ev z3 ∧ D.len z3 ≤ 1048576) (.br (decide (List.contains (D.to Int (D.cell mb 0 7)) w = hasEv (D.to Ev z3) (EvD.ev (EvD.mk 1
 (D.getInt n0 (Int.toNat w) 0))))) z2 z1))))))) (.leaf (Conf.mk (SFrm.mk 6 none none [Item.inLoop z4,Item.inBlock 4,Item.inBlock 1,Item.code z6,Item.inLoop z8,Item.inBlock 0,Item.code (cA 6 [1,1,1,1,1])]
 (mkJ 0 [(1,.int .u8 pa),(7,.ptr 100000 0),(9,.dat last),(40,.dat l),(41,.int .i64 (↑(D.len l) : Int)),(42,.int .i64 j),(88,.vec 1),(89,.int .i64 (↑(D.len mb) : Int)),(90,.int .i64 (IntKind.wrap .i64
 (0 + 1)))] 0 133)) [] [(1,OBlk.arr 28 mb),(3,OBlk.arr 50 ms),(4,OBlk.arr 3 n0),(5,OBlk.arr 3 n1),(6,OBlk.arr 3 n2),(100000,noC 1 3 3 now c pd sd zd wd ed h),(100001,OBlk.cells 22 [.vec 4,.vec 5,.vec 6])])) := by
 intros; kernel_rfl
theorem gd31_go : 
 let z3 := (likeEv ed (Hist.events h))
 let z4 := (cA 6 [1,1,1,1,0,1,0,0,1,1,0,0,1,1,1,1,0,0])
 let z5 := (cA 6 [1,1,1,1,0,1,0,0,1,1,0,0,1,1,1,1,0,0,1,1,0,0,1,1,0,0])
 let z6 := (cA 6 [1,1,1,1,0,1,0,0,1,1,1])
 let z7 := (cA 6 [1,1,1,1,0,1,0,0,1,1,0,0,1,1,1,1,0,0,1,1,1])
 let z8 := (cA 6 [1,1,1,1,0,1,0,0])
 let z1 : Tree := (.leaf (Conf.mk (SFrm.mk 6 none none [Item.inLoop z5,Item.inBlock 6,Item.inBlock 5,Item.code z7,Item.inLoop z4,Item.inBlock 4,Item.inBlock 1,Item.code z6,Item.inLoop z8,Item.inBlock 0,Item.code (cAt Try.prog 6 [1,1,1,1,1])] (mkJ 0 [(1,.int .u8 pa),(7,.ptr 100000 0),(9,.dat last),(16,.ptr 1 0),(40,.dat l),(41,.int .i64 (↑(D.len l) : Int)),(42,.int .i64 j),(88,.vec 2),(89,.int .i64 (↑(D.len mb) : Int)),(90,.int .i64 1),(101,.vec 3),(102,.int .i64 (↑(D.len n1) : Int)),(103,.int .i64 (IntKind.wrap .i64 (w + 1)))] 0 133)) [] [(1,OBlk.cells 28 [.int .i64 (D.getInt mb 1 0),.int .i64 (D.getInt mb 1 1),.int .i64 (D.getInt mb 1 2),.int .i64 (D.getInt mb 1 3),.bool (D.getBool mb 1 4),.int .i64 (D.getInt mb 1 5),.dat (D.cell mb 1 6),.dat (D.cell mb 1 7)]),(2,OBlk.arr 28 mb),(3,OBlk.arr 3 n1),(5,OBlk.arr 50 ms),(6,OBlk.arr 3 n0),(7,OBlk.arr 3 n2),(100000,noC 2 5 3 now c pd sd zd wd ed h),(100001,OBlk.cells 22 [.vec 6,.vec 3,.vec 7])]))
 let z2 : Tree := (.leaf (Conf.mk (SFrm.mk 6 none none [Item.code (cA 6 [1,1,0,1,0,1]),Item.inBlock 7,Item.code (cA 6 [1,1,1,1,0,1,0,0,1,1,0,0,1,1,1,1,0,0,1,1,0,0,1,1,0,0,1,1,1]),Item.inLoop z5,Item.inBlock 6,Item.inBlock 5,Item.code z7,Item.inLoop z4,Item.inBlock 4,Item.inBlock 1,Item.code z6,Item.inLoop z8,Item.inBlock 0,Item.code (cA 6 [1,1,1,1,1])] (mkJ 0 [(6,.lb false)] 0 133)) [] [(0,OBlk.arr 28 mb),(1,OBlk.arr 3 n1),(2,OBlk.arr 50 ms),(3,OBlk.arr 3 n0),(4,OBlk.arr 3 n2),(100000,noC 0 2 3 now c pd sd zd wd ed h),(100001,OBlk.cells 22 [.vec 3,.vec 1,.vec 4])]))
 execRE Try.prog ctGd [33] 400 (unroll (gd31L l pa last j w now c pd sd mb zd wd ed ms n0 n1 n2 h)) =
 Tree.br (decide (w < (↑(D.len n1) : Int))) (.need (0 ≤ w ∧ w < (↑(D.len n1) : Int) ∧ D.sz n1 = 1) (.need (D.HasCell n1 (Int.toNat w) 0 (FT.int .i64) ∧ D.sz n1 = 1) (.need (D.Is Int (D.cell mb 1 6) ∧ D.len
 (D.cell mb 1 6) ≤ 1048576) (.br (List.contains (D.to Int (D.cell mb 1 6)) w) (.need (D.Is Ev z3 ∧ D.len z3 ≤ 1048576) (.br (decide (true = hasEv (D.to Ev z3) (EvD.ev (EvD.mk 1 (D.getInt n1 (Int.toNat w) 0))))) z2 z1))
 (.need (D.Is Int (D.cell mb 1 7) ∧ D.len (D.cell mb 1 7) ≤ 1048576) (.need (D.Is Ev z3 ∧ D.len z3 ≤ 1048576) (.br (decide (List.contains (D.to Int (D.cell mb 1 7)) w = hasEv (D.to Ev z3) (EvD.ev (EvD.mk 1
 (D.getInt n1 (Int.toNat w) 0))))) z2 z1))))))) (.leaf (Conf.mk (SFrm.mk 6 none none [Item.inLoop z4,Item.inBlock 4,Item.inBlock 1,Item.code z6,Item.inLoop z8,Item.inBlock 0,Item.code (cA 6 [1,1,1,1,1])]
 (mkJ 0 [(1,.int .u8 pa),(7,.ptr 100000 0),(9,.dat last),(40,.dat l),(41,.int .i64 (↑(D.len l) : Int)),(42,.int .i64 j),(88,.vec 1),(89,.int .i64 (↑(D.len mb) : Int)),(90,.int .i64 (IntKind.wrap .i64
 (1 + 1)))] 0 133)) [] [(1,OBlk.arr 28 mb),(3,OBlk.arr 50 ms),(4,OBlk.arr 3 n0),(5,OBlk.arr 3 n1),(6,OBlk.arr 3 n2),(100000,noC 1 3 3 now c pd sd zd wd ed h),(100001,OBlk.cells 22 [.vec 4,.vec 5,.vec 6])])) := by
 intros; kernel_rfl
theorem gd32_go : 
 let z3 := (likeEv ed (Hist.events h))
 let z4 := (cA 6 [1,1,1,1,0,1,0,0,1,1,0,0,1,1,1,1,0,0])
 let z5 := (cA 6 [1,1,1,1,0,1,0,0,1,1,0,0,1,1,1,1,0,0,1,1,0,0,1,1,0,0])
 let z6 := (cA 6 [1,1,1,1,0,1,0,0,1,1,1])
 let z7 := (cA 6 [1,1,1,1,0,1,0,0,1,1,0,0,1,1,1,1,0,0,1,1,1])
 let z8 := (cA 6 [1,1,1,1,0,1,0,0])
 let z1 : Tree := (.leaf (Conf.mk (SFrm.mk 6 none none [Item.inLoop z5,Item.inBlock 6,Item.inBlock 5,Item.code z7,Item.inLoop z4,Item.inBlock 4,Item.inBlock 1,Item.code z6,Item.inLoop z8,Item.inBlock 0,Item.code (cAt Try.prog 6 [1,1,1,1,1])] (mkJ 0 [(1,.int .u8 pa),(7,.ptr 100000 0),(9,.dat last),(16,.ptr 1 0),(40,.dat l),(41,.int .i64 (↑(D.len l) : Int)),(42,.int .i64 j),(88,.vec 2),(89,.int .i64 (↑(D.len mb) : Int)),(90,.int .i64 2),(101,.vec 3),(102,.int .i64 (↑(D.len n2) : Int)),(103,.int .i64 (IntKind.wrap .i64 (w + 1)))] 0 133)) [] [(1,OBlk.cells 28 [.int .i64 (D.getInt mb 2 0),.int .i64 (D.getInt mb 2 1),.int .i64 (D.getInt mb 2 2),.int .i64 (D.getInt mb 2 3),.bool (D.getBool mb 2 4),.int .i64 (D.getInt mb 2 5),.dat (D.cell mb 2 6),.dat (D.cell mb 2 7)]),(2,OBlk.arr 28 mb),(3,OBlk.arr 3 n2),(5,OBlk.arr 50 ms),(6,OBlk.arr 3 n0),(7,OBlk.arr 3 n1),(100000,noC 2 5 3 now c pd sd zd wd ed h),(100001,OBlk.cells 22 [.vec 6,.vec 7,.vec 3])]))
 let z2 : Tree := (.leaf (Conf.mk (SFrm.mk 6 none none [Item.code (cA 6 [1,1,0,1,0,1]),Item.inBlock 7,Item.code (cA 6 [1,1,1,1,0,1,0,0,1,1,0,0,1,1,1,1,0,0,1,1,0,0,1,1,0,0,1,1,1]),Item.inLoop z5,Item.inBlock 6,Item.inBlock 5,Item.code z7,Item.inLoop z4,Item.inBlock 4,Item.inBlock 1,Item.code z6,Item.inLoop z8,Item.inBlock 0,Item.code (cA 6 [1,1,1,1,1])] (mkJ 0 [(6,.lb false)] 0 133)) [] [(0,OBlk.arr 28 mb),(1,OBlk.arr 3 n2),(2,OBlk.arr 50 ms),(3,OBlk.arr 3 n0),(4,OBlk.arr 3 n1),(100000,noC 0 2 3 now c pd sd zd wd ed h),(100001,OBlk.cells 22 [.vec 3,.vec 4,.vec 1])]))
 execRE Try.prog ctGd [33] 400 (unroll (gd32L l pa last j w now c pd sd mb zd wd ed ms n0 n1 n2 h)) =
 Tree.br (decide (w < (↑(D.len n2) : Int))) (.need (0 ≤ w ∧ w < (↑(D.len n2) : Int) ∧ D.sz n2 = 1) (.need (D.HasCell n2 (Int.toNat w) 0 (FT.int .i64) ∧ D.sz n2 = 1) (.need (D.Is Int (D.cell mb 2 6) ∧ D.len
 (D.cell mb 2 6) ≤ 1048576) (.br (List.contains (D.to Int (D.cell mb 2 6)) w) (.need (D.Is Ev z3 ∧ D.len z3 ≤ 1048576) (.br (decide (true = hasEv (D.to Ev z3) (EvD.ev (EvD.mk 1 (D.getInt n2 (Int.toNat w) 0))))) z2 z1))
 (.need (D.Is Int (D.cell mb 2 7) ∧ D.len (D.cell mb 2 7) ≤ 1048576) (.need (D.Is Ev z3 ∧ D.len z3 ≤ 1048576) (.br (decide (List.contains (D.to Int (D.cell mb 2 7)) w = hasEv (D.to Ev z3) (EvD.ev (EvD.mk 1
 (D.getInt n2 (Int.toNat w) 0))))) z2 z1))))))) (.leaf (Conf.mk (SFrm.mk 6 none none [Item.inLoop z4,Item.inBlock 4,Item.inBlock 1,Item.code z6,Item.inLoop z8,Item.inBlock 0,Item.code (cA 6 [1,1,1,1,1])]
 (mkJ 0 [(1,.int .u8 pa),(7,.ptr 100000 0),(9,.dat last),(40,.dat l),(41,.int .i64 (↑(D.len l) : Int)),(42,.int .i64 j),(88,.vec 1),(89,.int .i64 (↑(D.len mb) : Int)),(90,.int .i64 (IntKind.wrap .i64
 (2 + 1)))] 0 133)) [] [(1,OBlk.arr 28 mb),(3,OBlk.arr 50 ms),(4,OBlk.arr 3 n0),(5,OBlk.arr 3 n1),(6,OBlk.arr 3 n2),(100000,noC 1 3 3 now c pd sd zd wd ed h),(100001,OBlk.cells 22 [.vec 4,.vec 5,.vec 6])])) := by
 intros; kernel_rfl
end
def ctCb : Ctrs := [(21,ctrOf (rdCo.one.sp spRes)),(69,ctrOf ((rdD.two rdD).sp spInts))]
section
variable (l : D)
theorem cr_in : execRE Try.prog ctCb [31] 400 (entry Try.prog 32 []) =
 Tree.leaf (Conf.mk (SFrm.mk 31 none none [Item.code (cA 31 [])] (mkJ 1 [(0,.int .i64 2)] 0 31)) [SFrm.mk 32 (some (oA 32 [1,0],[1,2,3,4,5])) (some 7)
 [Item.code (cA 32 [1,1])] (mkJ 0 [] 0 56)] []) := by kernel_rfl
end
def crF0 : SFrm := SFrm.mk 32 (some (oA 32 [1,0],[1,2,3,4,5])) (some 7) [Item.code (cA 32 [1,1])] (mkJ 0 [] 0 56)
section
variable (now j : Int) (c : Co) (pd sd mb zd wd ed ms n0 n1 : D) (h : Hist)
theorem cr_k0 : execRE Try.prog ctCb [68,33] 400 (backW (.tup [.ptr 100000 0,.lb true]) crF0 (noM 2 [n0,n1] now c pd sd mb zd wd ed ms h)) =
 Tree.leaf (Conf.mk (SFrm.mk 68 none none [Item.code (cA 68 [])] (mkJ 1 [(0,.ptr 100000 0),(1,.int .i64 0)] 0 78)) [SFrm.mk 32 (some (oA 32 [1,1,0,0],
 [5,6,7,8,9,10,11,12,13,14,15,16,17,18,19,20,21,22])) (some 14) [Item.code (cA 32 [1,1,0,1]),Item.code (cA 32 [1,1,1])] (mkJ 0 [(1,.ptr 100000
 0),(12,.lb false)] 0 56)] [(1,OBlk.arr 28 mb),(3,OBlk.arr 50 ms),(4,OBlk.arr 3 n0),(5,OBlk.arr 3 n1),(100000,noC 1 3 2 now c pd sd zd wd ed h),(100001,OBlk.cells 22 [.vec 4,
 .vec 5])]) := by kernel_rfl
end
def crF1 : SFrm := SFrm.mk 32 (some (oA 32 [1,1,0,0],[5,6,7,8,9,10,11,12,13,14,15,16,17,18,19,20,21,22])) (some 14) [Item.code (cA 32 [1,1,0,1]),Item.code (cA 32 [1,1,1])] (mkJ 0 [(1,.ptr 100000 0),(12,.lb false)] 0 56)
section
variable (now j : Int) (c : Co) (pd sd mb zd wd ed ms n0 n1 : D) (h : Hist)
theorem cr_k1 : execRE Try.prog ctCb [68,33] 400 (backN crF1 (noM 2 [n0,n1] now c pd sd mb zd wd ed ms h)) =
 Tree.leaf (Conf.mk (SFrm.mk 68 none none [Item.code (cA 68 [])] (mkJ 1 [(0,.ptr 100000 0),(1,.int .i64 0)] 0 78)) [SFrm.mk 32 (some (oA 32 [1,1,0,0],
 [10,11,12,13,14,15,16,17,18,19,20,21,22])) (some 19) [Item.code (cA 32 [1,1,0,1]),Item.code (cA 32 [1,1,1])] (mkJ 0 [(1,.ptr 100000 0),(17,.lb
 false)] 0 56)] [(1,OBlk.arr 28 mb),(3,OBlk.arr 50 ms),(4,OBlk.arr 3 n0),(5,OBlk.arr 3 n1),(100000,noC 1 3 2 now c pd sd zd wd ed h),(100001,OBlk.cells 22 [.vec 4,.vec 5])]) := by kernel_rfl
end
def crF2 : SFrm := SFrm.mk 32 (some (oA 32 [1,1,0,0],[10,11,12,13,14,15,16,17,18,19,20,21,22])) (some 19) [Item.code (cA 32 [1,1,0,1]),Item.code (cA 32 [1,1,1])] (mkJ 0 [(1,.ptr 100000 0),(17,.lb false)] 0 56)
def crF3 : SFrm := SFrm.mk 32 (some (oA 32 [1,1,0,0],[15,16,17,18,19,20,21,22])) (some 24) [Item.code (cA 32 [1,1,0,1]),Item.code (cA 32 [1,1,1])] (mkJ 0 [(1,.ptr 100000 0),(22,.lb false)] 0 56)
section
variable (now j : Int) (c : Co) (pd sd mb zd wd ed ms n0 n1 : D) (h : Hist)
theorem cr_k2 : execRE Try.prog ctCb [68,33] 400 (backN crF2 (noM 2 [n0,n1] now c pd sd mb zd wd ed ms h)) =
 Tree.leaf (Conf.mk (SFrm.mk 68 none none [Item.code (cA 68 [])] (mkJ 1 [(0,.ptr 100000 0),(1,.int .i64 1)] 0 78)) [SFrm.mk 32 (some (oA 32 [1,1,0,0],
 [15,16,17,18,19,20,21,22])) (some 24) [Item.code (cA 32 [1,1,0,1]),Item.code (cA 32 [1,1,1])] (mkJ 0 [(1,.ptr 100000 0),(22,.lb false)] 0 56)] [(1,
 OBlk.arr 28 mb),(3,OBlk.arr 50 ms),(4,OBlk.arr 3 n0),(5,OBlk.arr 3 n1),(100000,noC 1 3 2 now c pd sd zd wd ed h),(100001,OBlk.cells 22 [.vec 4,.vec 5])]) := by kernel_rfl
theorem cr_k3 : execRE Try.prog ctCb [68,33] 400 (backN crF3 (noM 2 [n0,n1] now c pd sd mb zd wd ed ms h)) =
 Tree.leaf (Conf.mk (SFrm.mk 33 none none [Item.code (cA 33 [])] (mkJ 1 [(0,.ptr 100000 0),(1,.agg [.int .i64 2,.int .i64 0,.int .i64 0]),(2,
 .int .i64 9)] 0 298)) [SFrm.mk 32 (some (oA 32 [1,1,0,0],[21,22])) (some 30) [Item.code (cA 32 [1,1,0,1]),Item.code (cA 32 [1,1,1])] (mkJ
 0 [(1,.ptr 100000 0),(27,.lb false)] 0 56)] [(1,OBlk.arr 28 mb),(3,OBlk.arr 50 ms),(4,OBlk.arr 3 n0),(5,OBlk.arr 3 n1),(100000,noC 1 3 2 now c pd sd zd wd ed h),(100001,
 OBlk.cells 22 [.vec 4,.vec 5])]) := by kernel_rfl
end
def crF4 : SFrm := SFrm.mk 32 (some (oA 32 [1,1,0,0],[21,22])) (some 30) [Item.code (cA 32 [1,1,0,1]),Item.code (cA 32 [1,1,1])] (mkJ 0 [(1,.ptr 100000 0),(27,.lb false)] 0 56)
section
variable (now j : Int) (c : Co) (pd sd mb zd wd ed ms n0 n1 : D) (h : Hist)
theorem cr_k4 : execRE Try.prog ctCb [68,33] 400 (backN crF4 (noM 2 [n0,n1] now c pd sd mb zd wd ed ms h)) =
 Tree.leaf (Conf.mk (SFrm.mk 32 none none [Item.inLoop (cA 32 [1,1,1,0,1,0,0]),Item.inBlock 0,Item.code (cA 32 [1,1,1,1])] (mkJ 0 [(1,.ptr 100000 0),(33,
 .int .i64 0)] 0 56)) [] [(1,OBlk.arr 28 mb),(3,OBlk.arr 50 ms),(4,OBlk.arr 3 n0),(5,OBlk.arr 3 n1),(100000,noC 1 3 2 now c pd sd zd wd ed h),(100001,OBlk.cells 22 [.vec
 4,.vec 5])]) := by kernel_rfl
end
def cqL (j : Int) (mm : Mem) : Conf := Conf.mk (SFrm.mk 32 none none [Item.inLoop (cA 32 [1,1,1,0,1,0,0]),Item.inBlock 0,Item.code (cA 32 [1,1,1,1])] (mkJ 0 [(1,.ptr 100000 0),(33,.int .i64 j)] 0 56)) [] mm
section
variable (now j : Int) (c : Co) (pd sd mb zd wd ed ms n0 n1 : D) (h : Hist)
theorem cq_go : execRE Try.prog ctCb [68,33] 400 (unroll (cqL j (noM 2 [n0,n1] now c pd sd mb zd wd ed ms h))) =
 Tree.br (decide (j < 8)) (.leaf (Conf.mk (SFrm.mk 33 none none [Item.code (cA 33 [])] (mkJ 1 [(0,.ptr 100000 0),(1,.agg [.int .i64 3,.int .i64 0,
 .int .i64 j]),(2,.int .i64 9)] 0 298)) [SFrm.mk 32 (some (oA 32 [1,1,1,0,1,0,0,1,1,0,0,1,0],[4])) (some 39) [Item.code (cA 32 [1,1,1,
 0,1,0,0,1,1,0,0,1,1]),Item.inBlock 1,Item.code (cA 32 [1,1,1,0,1,0,0,1,1,1]),Item.inLoop (cA 32 [1,1,1,0,1,0,0]),Item.inBlock 0,Item.code
 (cA 32 [1,1,1,1])] (mkJ 0 [(1,.ptr 100000 0),(33,.int .i64 j)] 0 56)] [(1,OBlk.arr 28 mb),(3,OBlk.arr 50 ms),(4,OBlk.arr 3 n0),(5,OBlk.arr 3 n1),(100000,
 noC 1 3 2 now c pd sd zd wd ed h),(100001,OBlk.cells 22 [.vec 4,.vec 5])])) (.need (D.Is Int (D.like pd (Co.positions c)) ∧ D.Is Bool (D.like sd (Co.seen c))) (.all fun hs =>
 .br (Prod.snd (resultCo (CoD.co (coOf pd sd c)))) (.all fun hs_1=>.need (D.Is Int (D.like (hs 0 0) (Prod.fst (resultCo (CoD.co (coOf pd sd c))))) ∧ D.Is Int (D.slc (D.hd (hs_1
 0 0)) 1 [[D.int .i64 2],[D.int .i64 1]]) ∧ D.len (D.like (hs 0 0) (Prod.fst (resultCo (CoD.co (coOf pd sd c))))) ≤ 1048576) (.leaf (Conf.mk (SFrm.mk 32 none none
 [Item.code (cA 32 [1,1,0,1,0,1])] (mkJ 0 [(0,.bool (decide (D.to Int (D.like (hs 0 0) (Prod.fst (resultCo (CoD.co (coOf pd sd c))))) = D.to Int (D.slc (D.hd (hs_1 0 0)) 1
 [[D.int .i64 2],[D.int .i64 1]]))))] 0 56)) [] [(1,OBlk.arr 28 mb),(3,OBlk.arr 50 ms),(4,OBlk.arr 3 n0),(5,OBlk.arr 3 n1),(100000,noC 1 3 2 now c pd sd zd wd ed h),
 (100001,OBlk.cells 22 [.vec 4,.vec 5])]))) (.leaf (Conf.mk (SFrm.mk 32 none none [Item.code (cA 32 [1,1,0,1,0,1])] (mkJ 0 [(0,.lb false)] 0 56)) [] [(1,OBlk.arr
 28 mb),(3,OBlk.arr 50 ms),(4,OBlk.arr 3 n0),(5,OBlk.arr 3 n1),(100000,noC 1 3 2 now c pd sd zd wd ed h),(100001,OBlk.cells 22 [.vec 4,.vec 5])])))) := by kernel_rfl
end
def crF5 (j : Int) : SFrm := SFrm.mk 32 (some (oA 32 [1,1,1,0,1,0,0,1,1,0,0,1,0],[4])) (some 39) [Item.code (cA 32 [1,1,1,0,1,0,0,1,1,0,0,1,1]),Item.inBlock 1,Item.code (cA 32 [1,1,1,0,1,0,0,1,1,1]),Item.inLoop (cA 32 [1,1,1,0,1,0,0]),Item.inBlock 0,Item.code (cA 32 [1,1,1,1])] (mkJ 0 [(1,.ptr 100000 0),(33,.int .i64 j)] 0 56)
section
variable (now j : Int) (c : Co) (pd sd mb zd wd ed ms n0 n1 : D) (h : Hist)
theorem cr_k5 : execRE Try.prog ctCb [68,33] 400 (backN (crF5 j) (noM 2 [n0,n1] now c pd sd mb zd wd ed ms h)) =
 Tree.leaf (Conf.mk (SFrm.mk 32 none none [Item.inLoop (cA 32 [1,1,1,0,1,0,0]),Item.inBlock 0,Item.code (cA 32 [1,1,1,1])] (mkJ 0 [(1,.ptr 100000 0),(33,
 .int .i64 (IntKind.wrap .i64 (j + 1)))] 0 56)) [] [(1,OBlk.arr 28 mb),(3,OBlk.arr 50 ms),(4,OBlk.arr 3 n0),(5,OBlk.arr 3 n1),(100000,noC 1 3 2 now c pd sd zd wd ed
 h),(100001,OBlk.cells 22 [.vec 4,.vec 5])]) := by kernel_rfl
end
end Sv
end
