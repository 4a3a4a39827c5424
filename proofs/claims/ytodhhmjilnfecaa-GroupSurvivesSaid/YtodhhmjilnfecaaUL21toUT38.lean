/- Layer 20: the laws of lists. -/
import Derived.Test.YtodhhmjilnfecaaN41toUT21
import Derived.KernelRfl
import Derived.Test.YtodhhmjilnfecaaRntoN38
import Derived.Shelf.Slices.Delete
import Derived.Test.YtodhhmjilnfecaaProg
set_option linter.all false
section
open Go Go.Proofs Sx
namespace Go.Proofs.Ytodhhmjilnfecaa
set_option maxRecDepth 100000

theorem lawAsc : Law Try.prog 104 (rdD.one.sp spAsc) := by
 refine law_in _ (by kernel_rfl) fun H w d hok hp=>?_
 obtain ⟨hd,hlen⟩ := hp _ (List.mem_singleton.2 rfl)
 have hl := D.Is.length (α := Int) d
 apply exec_sound (noCtr _) 300
 rw [show rdD.one.canon d = [.dat d] from rfl,as_in]
 refine runs_loop (fun j : Nat=>asL d j) (fun j=>1 ≤ j ∧ ∀ i,i + 1 < j → i + 1 < (d.to Int).length → (d.to Int).getD i 0 < (d.to Int).getD (i + 1) 0) (fun j=>(d.to Int).length - j) (fun _=>rfl) ?_ 1 ⟨Nat.le_refl _,by omega⟩
 intro j ⟨hj,hpre⟩ ih
 apply exec_sound (noCtr _) 300
 rw [as_go]
 have hw1 : j < (d.to Int).length → IntKind.i64.wrap ((j : Int) - 1) = ((j - 1 : Nat) : Int) := fun h=>by rw [wrap64 (by omega) (by omega)]; omega
 refine ⟨fun hc hs=>?_,fun hc=>ret_lb ?_⟩
 ·have hc : j < (d.to Int).length := by have := of_decide_eq_true hc; omega
  obtain ⟨c1,c2,c3⟩ := int_at hd hc
  obtain ⟨e1,e2,e3⟩ := int_at hd (show j - 1 < (d.to Int).length by omega)
  have g1 : (d.to Int).getD j 0 = (d.to Int)[j] := by rw [List.getD_eq_getElem?_getD,List.getElem?_eq_getElem hc]; rfl
  have g2 : (d.to Int).getD (j - 1) 0 = (d.to Int)[j - 1] := by rw [List.getD_eq_getElem?_getD,List.getElem?_eq_getElem (by omega)]; rfl
  rw [hw1 hc,c3,e3]
  refine ⟨c1,c2,e1,e2,fun h=>ret_lb ?_,fun h=>?_⟩
  ·have h := of_decide_eq_true h
   refine (asc_not (i := j - 1) (by omega) ?_).symm
   rw [show j - 1 + 1 = j by omega,g1,g2]; omega
  ·have h := of_decide_eq_false h
   have := ih (j + 1) ⟨by omega,fun i hi hi2=>by
    by_cases hij : i + 1 = j
    ·have : i = j - 1 := by omega
     subst this
     rw [show j - 1 + 1 = j by omega,g1,g2]; omega
    ·exact hpre i (by omega) hi2⟩ (by omega)
   rw [← wrap_succ hc (by omega)] at this
   exact this
 ·have hc := of_decide_eq_false hc
  exact ((asc_iff _).2 fun i hi=>hpre i (by omega) hi).symm

theorem lawClW : OLaw Try.prog 80 (spClone Wt 31) := by
 refine olaw_clone (by kernel_rfl) fun H w d hok hd hlen=>?_
 apply execT_sound (noCtr _) (fun _=>false) 19
 rw [clw_in]
 refine ⟨fun hc=>?_,fun hc hs=>⟨⟨rfl,hd.fits,by simp only [len_slc,List.length_nil]; omega,by simp only [len_slc,List.length_nil]; omega⟩,fun hs1=>?_⟩⟩
 ·have hc : d.isNil = true := hc
  have := nil_rows hok hc
  exact own_nil (h := .slc none 3 []) (by rw [this]; rfl)
 ·exact own_ret (f := Try.f80) (j := 1007) (h := hs1 0 0) (by kernel_rfl) (by kernel_rfl) rfl rfl

theorem lawIxW : Law Try.prog 44 ((rdD.two rdInt).sp spIxI) := by
 refine law_in _ (by kernel_rfl) fun H w ⟨d,n⟩ hok hp=>?_
 obtain ⟨hd,hlen⟩ := hp _ (List.mem_singleton.2 rfl)
 simp only at hd hlen
 have hl := D.Is.length (α := Int) d
 apply exec_sound (noCtr _) 300
 rw [show (rdD.two rdInt).canon (d,n) = [.dat d,.int .i64 n] from rfl,ixw_in]
 refine runs_loop (fun j : Nat=>ixwL d n j) (fun j=>j ≤ (d.to Int).length ∧ ((d.to Int).take j).findIdx? (fun y=>decide (n = y)) = none) (fun j=>(d.to Int).length - j) (fun _=>rfl) ?_ 0 ⟨Nat.zero_le _,by simp⟩
 intro j ⟨hj,hpre⟩ ih
 apply exec_sound (noCtr _) 300
 rw [ixw_go]
 refine ⟨fun hc=>?_,fun hc=>ret_int ?_⟩
 ·have hc : j < (d.to Int).length := by have := of_decide_eq_true hc; omega
  obtain ⟨c1,c2,c3⟩ := int_at hd hc
  rw [c3]
  refine ⟨c1,c2,fun h=>ret_int ?_,fun h=>?_⟩
  ·exact (idxG_hit hc hpre h).symm
  ·have := ih (j + 1) ⟨hc,idxG_miss hc hpre h⟩ (by omega)
   rw [← wrap_succ hc (by omega)] at this
   exact this
 ·have : j = (d.to Int).length := by have := of_decide_eq_false hc; omega
  subst this
  exact (idxG_none hpre).symm

theorem bool_at {d : D} (hd : d.Is Bool) {j : Nat} (hj : j < (d.to Bool).length) :
  (0 ≤ (j : Int) ∧ (j : Int) < (d.len : Int) ∧ d.sz = 1) ∧ d.HasCell (Int.toNat j) 0 .bool ∧ d.getBool (Int.toNat j) 0 = (d.to Bool)[j] := by
 obtain ⟨h1,h2⟩ := bool_cell hd hj
 exact ⟨⟨by omega,by rw [D.Is.length (α := Bool)]; omega,by rw [hd.size hj]; rfl⟩,h2,h1⟩

theorem lawIxB : Law Try.prog 90 ((rdD.two rdBool).sp spIxB) := by
 refine law_in _ (by kernel_rfl) fun H w ⟨d,n⟩ hok hp=>?_
 obtain ⟨hd,hlen⟩ := hp _ (List.mem_singleton.2 rfl)
 simp only at hd hlen
 have hl := D.Is.length (α := Bool) d
 apply exec_sound (noCtr _) 300
 rw [show (rdD.two rdBool).canon (d,n) = [.dat d,.bool n] from rfl,ixb_in]
 refine runs_loop (fun j : Nat=>ixbL d n j) (fun j=>j ≤ (d.to Bool).length ∧ ((d.to Bool).take j).findIdx? (fun y=>decide (n = y)) = none) (fun j=>(d.to Bool).length - j) (fun _=>rfl) ?_ 0 ⟨Nat.zero_le _,by simp⟩
 intro j ⟨hj,hpre⟩ ih
 apply exec_sound (noCtr _) 300
 rw [ixb_go]
 refine ⟨fun hc=>?_,fun hc=>ret_int ?_⟩
 ·have hc : j < (d.to Bool).length := by have := of_decide_eq_true hc; omega
  obtain ⟨c1,c2,c3⟩ := bool_at hd hc
  rw [c3]
  refine ⟨c1,c2,fun h=>ret_int ?_,fun h=>?_⟩
  ·exact (idxG_hit hc hpre h).symm
  ·have := ih (j + 1) ⟨hc,idxG_miss hc hpre h⟩ (by omega)
   rw [← wrap_succ hc (by omega)] at this
   exact this
 ·have : j = (d.to Bool).length := by have := of_decide_eq_false hc; omega
  subst this
  exact (idxG_none hpre).symm
theorem ctIxBOk : Ctrs.Ok Try.prog [(90,ctrOf ((rdD.two rdBool).sp spIxB))] := by
 intro x hx; rw [List.mem_singleton.1 hx]; exact ctrOf_ok lawIxB
theorem lawHasB : Law Try.prog 54 ((rdD.two rdBool).sp spHasB) := by
 refine law_in _ (by kernel_rfl) fun H w ⟨d,n⟩ hok hp=>?_
 obtain ⟨hd,hlen⟩ := hp _ (List.mem_singleton.2 rfl)
 simp only at hd hlen
 apply exec_sound ctIxBOk 300
 rw [show (rdD.two rdBool).canon (d,n) = [.dat d,.bool n] from rfl,ctb_in]
 exact ⟨⟨hd,hlen⟩,ret_bool (idxG_any _ _)⟩
theorem is_cell {c : D} {d : D} {i : Nat} (hc : c.Is Int ∧ d.cellAt i 0 = some c) : ∃ h s r,d.cellAt i 0 = some (.slc h s r) := by
 obtain ⟨⟨h1,h2,h3,e,_⟩,h⟩ := hc
 exact ⟨h1,h2,h3,by rw [h,e]⟩
theorem joinB {H : HV} {w : World} {a : Hd} {c d : D} (hc : c.Is Int) (hd : d.Is Int) (lc : c.len ≤ 1048576) (ld : d.len ≤ 1048576) (r : Hd) :
  Runs Try.prog ⟨w,H⟩ (ccB (.slc a 1 [[c],[d]]) (.slc r 1 []) 0) (OwnR w H 3 fun h=>.slc h.hd (Codec.sz Int) (c.rows ++ d.rows)) := by
 refine runs_loop (fun p : Nat × D=>ccB (.slc a 1 [[c],[d]]) p.2 p.1) (fun p=>p.1 ≤ 2 ∧ ∃ h,p.2 = .slc h 1 (if p.1 = 0 then [] else if p.1 = 1 then c.rows else c.rows ++ d.rows)) (fun p=>2 - p.1) (fun _=>rfl) ?_ (0,.slc r 1 []) ⟨Nat.zero_le _,r,rfl⟩
 intro ⟨j,q⟩ ⟨hj,h,hq⟩ ih
 simp only at hj hq ih
 show Runs _ _ (unroll (ccB _ q j)) _
 rw [hq]
 apply execR_sound (noCtr _) 300
 rw [ccB_go]
 have hlen : ((D.slc a 1 [[c],[d]]).len : Int) = 2 := rfl
 simp only [hlen]
 refine ⟨fun hjc=>?_,fun hjc=>?_⟩
 ·have hjc : j < 2 := by have := of_decide_eq_true hjc; omega
  have hj01 : j = 0 ∨ j = 1 := by omega
  rcases hj01 with rfl | rfl
  ·refine ⟨⟨by omega,by omega,rfl⟩,is_cell ⟨hc,rfl⟩,⟨rfl,hc.fits,?_,?_⟩,fun hs=>?_⟩
   ·show (0 + c.len) * 8 ≤ _; omega
   ·show 0 + c.len ≤ _; omega
   ·have := ih (1,.slc (hs 0 0).hd 1 (List.append [] c.rows)) ⟨by simp only; omega,(hs 0 0).hd,rfl⟩ (by simp only; omega)
    exact this
  ·refine ⟨⟨by omega,by omega,rfl⟩,is_cell ⟨hd,rfl⟩,⟨rfl,hd.fits,?_,?_⟩,fun hs=>?_⟩
   ·show (c.len + d.len) * 8 ≤ _; omega
   ·show c.len + d.len ≤ _; omega
   ·have := ih (2,.slc (hs 0 0).hd 1 (List.append c.rows d.rows)) ⟨by simp only; omega,(hs 0 0).hd,rfl⟩ (by simp only; omega)
    exact this
 ·have hjc := of_decide_eq_false hjc
  have : j = 2 := by omega
  subst this
  exact own_ret (f := Try.f106) (j := 0) (h := .slc h 1 []) (by kernel_rfl) (by kernel_rfl) rfl rfl

theorem lawJoin : OLaw Try.prog 106 (spJoin Int 3) := by
 refine olaw_join (by kernel_rfl) fun H w a c d hok hc hd lc ld=>?_
 apply exec_sound (noCtr _) 300
 rw [cc_in]
 refine runs_loop (fun p : Nat=>ccA (.slc a 1 [[c],[d]]) (if p = 0 then 0 else if p = 1 then c.len else ((c.len + d.len : Nat) : Int)) p) (fun p=>p ≤ 2) (fun p=>2 - p) (fun _=>rfl) ?_ 0 (Nat.zero_le _)
 intro j hj ih
 apply exec_sound (noCtr _) 300
 rw [ccA_go]
 have hlen : ((D.slc a 1 [[c],[d]]).len : Int) = 2 := rfl
 simp only [hlen]
 refine ⟨fun hjc=>?_,fun hjc=>?_⟩
 ·have hjc : j < 2 := by have := of_decide_eq_true hjc; omega
  have hj01 : j = 0 ∨ j = 1 := by omega
  rcases hj01 with rfl | rfl
  ·refine ⟨⟨by omega,by omega,rfl⟩,is_cell ⟨hc,rfl⟩,fun hn=>?_,fun hn=>?_⟩
   ·have e : IntKind.i64.wrap (0 + (c.len : Int)) = c.len := by rw [wrap64 (by omega) (by omega)]; omega
    have := of_decide_eq_true hn
    exfalso
    have h2 : IntKind.i64.wrap (0 + (c.len : Int)) < 0 := this
    omega
   ·have := ih 1 (by omega) (by omega)
    have e : IntKind.i64.wrap (0 + (c.len : Int)) = c.len := by rw [wrap64 (by omega) (by omega)]; omega
    show Runs _ _ (ccA (.slc a 1 [[c],[d]]) (IntKind.i64.wrap (0 + (c.len : Int))) (IntKind.i64.wrap (0 + 1))) _
    rw [e]
    exact this
  ·have e : IntKind.i64.wrap ((c.len : Int) + (d.len : Int)) = ((c.len + d.len : Nat) : Int) := by rw [wrap64 (by omega) (by omega)]; omega
   refine ⟨⟨by omega,by omega,rfl⟩,is_cell ⟨hd,rfl⟩,fun hn=>?_,fun hn=>?_⟩
   ·have := of_decide_eq_true hn
    exfalso
    have h2 : IntKind.i64.wrap ((c.len : Int) + (d.len : Int)) < 0 := this
    omega
   ·have := ih 2 (by omega) (by omega)
    show Runs _ _ (ccA (.slc a 1 [[c],[d]]) (IntKind.i64.wrap ((c.len : Int) + (d.len : Int))) (IntKind.i64.wrap (1 + 1))) _
    rw [e]
    exact this
 ·have hjc := of_decide_eq_false hjc
  have : j = 2 := by omega
  subst this
  have hk : (if 2 = 0 then (0 : Int) else if 2 = 1 then (c.len : Int) else ((c.len + d.len : Nat) : Int)) = ((c.len + d.len : Nat) : Int) := rfl
  rw [hk]
  generalize hkk : c.len + d.len = k at *
  have hw : IntKind.i64.wrap ((k : Int) - IntKind.i64.wrap (0 - (0 : Int))) = k := by
   rw [wrap64 (n := 0 - (0 : Int)) (by omega) (by omega),wrap64 (by omega) (by omega)]; omega
  refine ⟨fun hn=>?_,fun hn=>⟨fun hp=>?_,fun hp=>?_⟩⟩
  ·have := of_decide_eq_true hn; omega
  ·have hp := of_decide_eq_true hp
   rw [hw] at hp ⊢
   refine ⟨⟨by omega,by omega,by omega,.inl rfl⟩,⟨rfl,hp,by omega,by omega⟩,fun hs=>⟨⟨by omega,by simp only [len_slc]; omega,.inr rfl⟩,?_⟩⟩
   exact joinB hc hd lc ld (hs 0 0).hd
  ·exact vecIn_to 9 3 1 none 6 (ccB (.slc a 1 [[c],[d]]) (.slc none 1 []) 0) (by kernel_rfl) (joinB hc hd lc ld none)
end Go.Proofs.Ytodhhmjilnfecaa
end
section
open Go Go.Proofs Sx
namespace Go.Proofs.Ytodhhmjilnfecaa
set_option maxRecDepth 100000
set_option maxHeartbeats 0
noncomputable def ctP : Ctrs := [(104,ctrOf (rdD.one.sp spAsc)),(54,ctrOf ((rdD.two rdBool).sp spHasB)),(106,oCtr (spJoin Int 3)),(78,oCtr (spClone Int 3)),(81,oCtr (spClone Sec 81)),(79,oCtr (spClone Ev 108)),(80,oCtr (spClone Wt 31))]
noncomputable def opL (ha hb hc wt hd p : D) (fz : Bool) (j : Int) : Conf := Conf.mk (SFrm.mk 40 none none [Item.inLoop (cAt Try.prog 40 [1,1,1,1,0,1,0,0]),Item.inBlock 0,Item.code (cAt Try.prog 40 [1,1,1,1,1])] (mkJ 0 [(1,.ptr 0 0),(5,.ptr 1 0),(30,.dat hc),(31,.int .i64 hc.len),(32,.int .i64 j)] 0 130)) []
 [(0,.cells 28 [.dat ha,.dat hb,.dat hc,.dat wt,.dat hd,.bool fz]),(1,.cells 91 [.vec 2,.dat ha,.dat hb,.dat hc,.dat wt,.dat hd,.bool fz]),(2,.arr 4 p)]
noncomputable def dvL (ha hb hc wt hd p s q : D) (fz : Bool) (i j : Int) : Conf := Conf.mk (SFrm.mk 77 none none [Item.inLoop (cAt Try.prog 77 [1,1,1,0,1,0,0]),Item.inBlock 0,Item.code (cAt Try.prog 77 [1,1,1,1])] (mkJ 1 [(3,.vec 0),(30,.vec 1),(31,.int .i64 q.len),(32,.int .i64 j)] 0 57))
 [SFrm.mk 40 (some (opsAt Try.prog 40 [1,1,1,1,1,0,0,0],[2,3])) (some 50) [Item.code (cAt Try.prog 40 [1,1,1,1,1,0,0,1]),Item.inBlock 2,Item.code (cAt Try.prog 40 [1,1,1,1,1,1])] (mkJ 0 [(1,.ptr 2 0),(5,.ptr 3 0),(30,.dat hc),(31,.int .i64 hc.len),(32,.int .i64 i),(33,.bool (decide (i < (hc.len : Int)))),(49,.ptr 3 0)] 0 130)]
 [(0,.arr 4 s),(1,.arr 3 q),(2,.cells 28 [.dat ha,.dat hb,.dat hc,.dat wt,.dat hd,.bool fz]),(3,.cells 91 [.vec 4,.dat ha,.dat hb,.dat hc,.dat wt,.dat hd,.bool fz]),(4,.arr 4 p)]
noncomputable def clL (p a b c wt hd : D) (fz : Bool) (n : Nat) (j : Int) : Conf := Conf.mk (SFrm.mk 40 none none [Item.inLoop (cAt Try.prog 40 [1,1,1,1,1,1,1,1,1,0,1,0,0]),Item.inBlock 3,Item.code (cAt Try.prog 40 [1,1,1,1,1,1,1,1,1,1])] (mkJ 0 [(5,.ptr 0 0),(8,.ptr 0 1),(108,.int .i64 n),(109,.int .i64 j)] 0 130)) []
 [(0,.cells 91 [.vec 1,.vec 2,.vec 3,.vec 4,.vec 5,.vec 6,.bool fz]),(1,.arr 4 p),(2,.arr 3 a),(3,.arr 31 b),(4,.arr 108 c),(5,.arr 3 wt),(6,.arr 3 hd)]
section
variable (m : Nat) (s q : D) (i : Int) (n j k w : Int) (ha hb hc wt hd p : D) (fz : Bool)
theorem op_go : 
 let z1 := (SFrm.mk 40 none none [Item.inLoop (cAt Try.prog 40 [1,1,1,1,0,1,0,0]),Item.inBlock 0,Item.code (cAt Try.prog 40 [1,1,1,1,1])] (mkJ 0 [(1,.ptr 0 0),(5,.ptr 1 0),(30,.dat hc),(31,.int .i64 (↑(D.len hc) : Int)),(32,.int .i64 (IntKind.wrap .i64 (j + 1)))] 0 130))
 exec Try.prog ctP 800 (unroll (opL ha hb hc wt hd p fz j)) =
 Tree.br (decide (j < (↑(D.len hc) : Int))) (.need (0 ≤ j ∧ j < (↑(D.len hc) : Int) ∧ D.sz hc = 2) (.need (D.HasCells hc (Int.toNat j) 0 [FT.int .i64,FT.int .i64]) (.br (decide (D.getInt hc (Int.toNat j) 0 = 1))
 (.all fun hs=>.need (0 ≤ D.getInt hc (Int.toNat j) 1 ∧ D.getInt hc (Int.toNat j) 1 < (↑(D.len p) : Int) ∧ D.sz p = 1) (.need (Int.toNat (D.getInt hc (Int.toNat j) 1) < D.len p ∧ 1 ≤ D.sz p ∧ D.sz p = 1)
 (.leaf (Conf.mk z1 [] [(0,OBlk.cells 28 [.dat ha,.dat hb,.dat hc,.dat wt,.dat hd,.bool fz]),(1,OBlk.cells 91 [.vec 2,.dat ha,.dat hb,.dat hc,.dat wt,.dat hd,.bool fz]),(2,OBlk.arr 4 (D.setCells p
 (Int.toNat (D.getInt hc (Int.toNat j) 1)) 0 [D.bool true]))])))) (.leaf (Conf.mk z1 [] [(0,OBlk.cells 28 [.dat ha,.dat hb,.dat hc,.dat wt,.dat hd,.bool fz]),(1,OBlk.cells 91 [.vec 2,.dat ha,.dat hb,.dat hc,.dat wt,.dat hd,.bool fz]),
 (2,OBlk.arr 4 p)]))))) (.need (D.Is Int wt ∧ D.len wt ≤ 1048576) (.br (!asc (D.to Int wt)) (.ret (SV.tup [SV.nilp,.int .i64 3])) (.br (nilOf (evS (putS [.vec 2,SV.undef,.nils,SV.undef,SV.undef,SV.undef,SV.undef,SV.undef]
 (some 3) (evS [.vec 2,SV.undef,.nils,SV.undef,SV.undef,SV.undef,SV.undef,SV.undef] (Operand.tmp 0))) (Operand.tmp 3)) p) (.all fun hs=>.need (D.Is Int wt ∧ D.Is Int hd ∧ D.len wt ≤ 1048576 ∧ D.len hd ≤ 1048576)
 (.leaf (Conf.mk (SFrm.mk 77 none none [Item.inLoop (cAt Try.prog 77 [1,1,1,0,1,0,0]),Item.inBlock 0,Item.code (cAt Try.prog 77 [1,1,1,1])] (mkJ 1 [(3,.nils),(30,.vec 0),(31,.int .i64 (↑(D.len
 (D.slc (D.hd (hs 11 0)) 1 (List.append (D.rows wt) (D.rows hd)))) : Int)),(32,.int .i64 0)] 0 57)) [SFrm.mk 40 (some (opsAt Try.prog 40 [1,1,1,1,1,0,0,0],[2,3])) (some 50) [Item.code (cAt Try.prog 40 [1,1,1,1,1,0,0,1]),Item.inBlock 2,Item.code
 (cAt Try.prog 40 [1,1,1,1,1,1])] (mkJ 0 [(1,.ptr 1 0),(5,.ptr 2 0),(30,.dat hc),(31,.int .i64 (↑(D.len hc) : Int)),(32,.int .i64 j),(33,.bool (decide (j < (↑(D.len hc) : Int)))),(49,.ptr 2 0)] 0 130)] [(0,OBlk.arr 3
 (D.slc (D.hd (hs 11 0)) 1 (List.append (D.rows wt) (D.rows hd)))),(1,OBlk.cells 28 [.dat ha,.dat hb,.dat hc,.dat wt,.dat hd,.bool fz]),(2,OBlk.cells 91 [.vec 3,.dat ha,.dat hb,.dat hc,.dat wt,.dat hd,.bool fz]),
 (3,OBlk.arr 4 p)]))) (.all fun hs=>.need (D.sz (D.slc (D.hd (hs 0 0)) 1 []) = 1 ∧ D.Fits p 1 ∧ (D.len (D.slc (D.hd (hs 0 0)) 1 []) + D.len p) * 1 ≤ 140737488355328 ∧ D.len (D.slc (D.hd (hs 0 0)) 1 []) + D.len p ≤ 9223372036854775807)
 (.all fun hs_1=>.all fun hs_2=>.need (D.Is Int wt ∧ D.Is Int hd ∧ D.len wt ≤ 1048576 ∧ D.len hd ≤ 1048576) (.leaf (Conf.mk (SFrm.mk 77 none none [Item.inLoop (cAt Try.prog 77 [1,1,1,0,1,0,0]),Item.inBlock 0,Item.code
 (cAt Try.prog 77 [1,1,1,1])] (mkJ 1 [(3,.vec 0),(30,.vec 1),(31,.int .i64 (↑(D.len (D.slc (D.hd (hs_2 11 0)) 1 (List.append (D.rows wt) (D.rows hd)))) : Int)),(32,.int .i64 0)] 0 57)) [SFrm.mk 40
 (some (opsAt Try.prog 40 [1,1,1,1,1,0,0,0],[2,3])) (some 50) [Item.code (cAt Try.prog 40 [1,1,1,1,1,0,0,1]),Item.inBlock 2,Item.code (cAt Try.prog 40 [1,1,1,1,1,1])] (mkJ 0 [(1,.ptr 2 0),
 (5,.ptr 3 0),(30,.dat hc),(31,.int .i64 (↑(D.len hc) : Int)),(32,.int .i64 j),(33,.bool (decide (j < (↑(D.len hc) : Int)))),(49,.ptr 3 0)] 0 130)] [(0,OBlk.arr 4 (D.slc (D.hd (hs_1 0 0)) 1
 (List.append (D.rows (D.slc (D.hd (hs 0 0)) 1 [])) (D.rows p)))),(1,OBlk.arr 3 (D.slc (D.hd (hs_2 11 0)) 1 (List.append (D.rows wt) (D.rows hd)))),(2,OBlk.cells 28 [.dat ha,.dat hb,.dat hc,.dat wt,.dat hd,.bool fz]),
 (3,OBlk.cells 91 [.vec 4,.dat ha,.dat hb,.dat hc,.dat wt,.dat hd,.bool fz]),(4,OBlk.arr 4 p)]))))))) := by
 intros; kernel_rfl

theorem dv_go : 
 let z1 : Tree := (.all fun hs=>.need (D.Is Int wt ∧ D.len wt ≤ 1048576) (.need (D.Is Int hd ∧ D.len hd ≤ 1048576) (.all fun hs_1=>.need (D.Is Int ha ∧ D.len ha ≤ 1048576) (.need (D.Is Ev hc ∧ D.len hc ≤ 1048576) (.need (D.Is Wt hb ∧ D.len hb ≤ 1048576) (.leaf (Conf.mk (SFrm.mk 40 none none [Item.inLoop (cAt Try.prog 40 [1,1,1,1,1,1,1,1,1,0,1,0,0]),Item.inBlock 3,Item.code (cAt Try.prog 40 [1,1,1,1,1,1,1,1,1,1])] (mkJ 0 [(5,.ptr 0 0),(8,.ptr 0 1),(108,.int .i64 (↑(D.len (D.slc (D.hd (hs_1 17 0)) 3 (D.rows hb))) : Int)),(109,.int .i64 0)] 0 130)) [] [(0,OBlk.cells 91 [.vec 1,.vec 2,.vec 3,.vec 4,.vec 5,.vec 6,.bool fz]),(1,OBlk.arr 4 p),(2,OBlk.arr 3 (D.slc (D.hd (hs_1 7 0)) 1 (D.rows ha))),(3,OBlk.arr 31 (D.slc (D.hd (hs_1 17 0)) 3 (D.rows hb))),(4,OBlk.arr 108 (D.slc (D.hd (hs_1 12 0)) 2 (D.rows hc))),(5,OBlk.arr 3 (D.slc (D.hd (hs 4 0)) 1 (D.rows wt))),(6,OBlk.arr 3 (D.slc (D.hd (hs 7 0)) 1 (D.rows hd)))])))))))
 exec Try.prog ctP 800 (unroll (dvL ha hb hc wt hd p s q fz i j)) =
 Tree.br (decide (j < (↑(D.len q) : Int))) (.need (0 ≤ j ∧ j < (↑(D.len q) : Int) ∧ D.sz q = 1) (.need (D.HasCell q (Int.toNat j) 0 (FT.int .i64) ∧ D.sz q = 1) (.br (decide (D.getInt q (Int.toNat j) 0 < 0))
 (.ret (SV.tup [SV.nilp,.int .i64 3])) (.br (decide (D.getInt q (Int.toNat j) 0 ≥ (↑(D.len s) : Int))) (.ret (SV.tup [SV.nilp,.int .i64 3])) (.need (0 ≤ D.getInt q (Int.toNat j) 0 ∧ D.getInt q (Int.toNat j) 0 <
 (↑(D.len s) : Int) ∧ D.sz s = 1) (.need (D.HasCell s (Int.toNat (D.getInt q (Int.toNat j) 0)) 0 FT.bool ∧ D.sz s = 1) (.br (D.getBool s (Int.toNat (D.getInt q (Int.toNat j) 0)) 0) (.ret (SV.tup [SV.nilp,.int .i64 3]))
 (.need (0 ≤ D.getInt q (Int.toNat j) 0 ∧ D.getInt q (Int.toNat j) 0 < (↑(D.len s) : Int) ∧ D.sz s = 1) (.need (Int.toNat (D.getInt q (Int.toNat j) 0) < D.len s ∧ 1 ≤ D.sz s ∧ D.sz s = 1) (.leaf (Conf.mk
 (SFrm.mk 77 none none [Item.inLoop (cAt Try.prog 77 [1,1,1,0,1,0,0]),Item.inBlock 0,Item.code (cAt Try.prog 77 [1,1,1,1])] (mkJ 1 [(3,.vec 0),(30,.vec 1),(31,.int .i64 (↑(D.len q) : Int)),
 (32,.int .i64 (IntKind.wrap .i64 (j + 1)))] 0 57)) [SFrm.mk 40 (some (opsAt Try.prog 40 [1,1,1,1,1,0,0,0],[2,3])) (some 50) [Item.code (cAt Try.prog 40 [1,1,1,1,1,0,0,1]),Item.inBlock 2,Item.code
 (cAt Try.prog 40 [1,1,1,1,1,1])] (mkJ 0 [(1,.ptr 2 0),(5,.ptr 3 0),(30,.dat hc),(31,.int .i64 (↑(D.len hc) : Int)),(32,.int .i64 i),(33,.bool (decide (i < (↑(D.len hc) : Int)))),(49,.ptr 3 0)] 0 130)] [(0,OBlk.arr 4
 (D.setCells s (Int.toNat (D.getInt q (Int.toNat j) 0)) 0 [D.bool true])),(1,OBlk.arr 3 q),(2,OBlk.cells 28 [.dat ha,.dat hb,.dat hc,.dat wt,.dat hd,.bool fz]),(3,OBlk.cells 91 [.vec 4,.dat ha,.dat hb,.dat hc,.dat wt,.dat hd,.bool fz]),
 (4,OBlk.arr 4 p)]))))))))))) (.need (D.Is Bool s ∧ D.len s ≤ 1048576) (.br (!!List.any (D.to Bool s) fun y=>decide (false = y)) (.ret (SV.tup [SV.nilp,.int .i64 3])) (.br (decide ((↑(D.len hd) : Int) > 0))
 (.br (!fz) (.ret (SV.tup [SV.nilp,.int .i64 12])) z1) z1))) := by
 intros; kernel_rfl

theorem cl_go : execR Try.prog ctP 800 (unroll (clL p ha hb hc wt hd fz m j)) =
 Tree.br (decide (j < (↑m : Int)))
 (.all fun hs =>
 .need (0 ≤ j ∧ j < (↑(D.len hb) : Int) ∧ D.sz hb = 3)
 (.need (D.HasCell hb (Int.toNat j) 2 FT.slc ∧ D.sz hb = 3)
 (.need (D.Is Sec (D.cell hb (Int.toNat j) 2) ∧ D.len (D.cell hb (Int.toNat j) 2) ≤ 1048576)
 (.need (0 ≤ j ∧ j < (↑(D.len hb) : Int) ∧ D.sz hb = 3)
 (.need (Int.toNat j < D.len hb ∧ 3 ≤ D.sz hb ∧ D.sz hb = 3)
 (.leaf
 (Conf.mk
 (SFrm.mk 40 none none
 [Item.inLoop (cAt Try.prog 40 [1,1,1,1,1,1,1,1,1,0,1,0,0]),Item.inBlock 3,
 Item.code (cAt Try.prog 40 [1,1,1,1,1,1,1,1,1,1])]
 (mkJ 0
 [(5,.ptr 0 0),(8,.ptr 0 1),(108,.int .i64 (↑m : Int)),
 (109,.int .i64 (IntKind.wrap .i64 (j + 1)))]
 0 130))
 []
 [(0,OBlk.cells 91 [.vec 1,.vec 2,.vec 3,.vec 4,.vec 5,.vec 6,.bool fz]),
 (1,OBlk.arr 4 p),(2,OBlk.arr 3 ha),
 (3,
 OBlk.arr 31
 (D.setCells hb (Int.toNat j) 2
 [D.slc (D.hd (hs 13 0)) 8 (D.rows (D.cell hb (Int.toNat j) 2))])),
 (4,OBlk.arr 108 hc),(5,OBlk.arr 3 wt),(6,OBlk.arr 3 hd)])))))))
 (.leaf
 (Conf.mk
 (SFrm.mk 40 none none [Item.code (cAt Try.prog 40 [1,0,1,1,0,1])]
 (mkJ 0
 [(2,.ptr 0 0),(3,.int .i64 0),(5,.ptr 0 0),(8,.ptr 0 1),
 (108,.int .i64 (↑m : Int)),(109,.int .i64 j),(110,.bool (decide (j < (↑m : Int)))),
 (129,.ptr 0 0)]
 0 130))
 []
 [(0,OBlk.cells 91 [.vec 1,.vec 2,.vec 3,.vec 4,.vec 5,.vec 6,.bool fz]),(1,OBlk.arr 4 p),
 (2,OBlk.arr 3 ha),(3,OBlk.arr 31 hb),(4,OBlk.arr 108 hc),(5,OBlk.arr 3 wt),(6,OBlk.arr 3 hd)])) := by kernel_rfl

end
end Go.Proofs.Ytodhhmjilnfecaa
end
section
open Go Go.Proofs Sx
namespace Go.Proofs.Ytodhhmjilnfecaa
set_option maxRecDepth 100000
def openPhi (x : GrD) (v : SV) (m : Mem) : Prop :=
 (openErr x.gr ≠ 0 ∧ v = .tup [.nilp,.int .i64 (openErr x.gr)] ∧ m = []) ∨
 (openErr x.gr = 0 ∧ v = .tup [.ptr 0 0,.int .i64 0] ∧ ∃ p a b c wt hd,m = [(0,.cells 91 [.vec 1,.vec 2,.vec 3,.vec 4,.vec 5,.vec 6,.bool x.fz]),(1,.arr 4 p),(2,.arr 3 a),(3,.arr 31 b),(4,.arr 108 c),(5,.arr 3 wt),(6,.arr 3 hd)] ∧
  (p.Is Bool ∧ p.to Bool = ackd (x.h.w.to Wt).length (x.h.e.to Ev)) ∧ (a.Is Int ∧ a.to Int = x.h.s.to Int) ∧ (b.Is Wt ∧ b.to Wt = x.h.w.to Wt) ∧ (c.Is Ev ∧ c.to Ev = x.h.e.to Ev) ∧ (wt.Is Int ∧ wt.to Int = x.wt.to Int) ∧ (hd.Is Int ∧ hd.to Int = x.hd.to Int) ∧ c.sz = 2 ∧ wt.sz = 1 ∧ hd.sz = 1 ∧ p.sz = 1)

theorem ret_M {w : World} {H : HV} {Φ : SV → Mem → Prop} {v : SV} (hj : v.jk 0 = false) (h : Φ v []) : (Tree.ret v).holds Try.prog ⟨w,H⟩ (RetM w H Φ) :=
 ⟨rfl,fun E H' _ g hv=>⟨v,[],E,H',h,rfl,g,hv,hj,fun _ hx=>by cases hx⟩⟩

theorem ctPOk : Ctrs.Ok Try.prog ctP := by
 intro x hx
 simp only [ctP,List.mem_cons,List.not_mem_nil,or_false] at hx
 rcases hx with rfl | rfl | rfl | rfl | rfl | rfl | rfl
 ·exact ctrOf_ok lawAsc
 ·exact ctrOf_ok lawHasB
 ·exact oCtr_ok lawJoin
 ·exact oCtr_ok lawCl1
 ·exact oCtr_ok lawCl2
 ·exact oCtr_ok lawCl3
 ·exact oCtr_ok lawClW

theorem cl_loop {H : HV} {w : World} {x : GrD} (hx : x.Right) (h0 : openErr x.gr = 0) {p a b c wt hd : D}
  (hp : p.Is Bool ∧ p.to Bool = ackd (x.h.w.to Wt).length (x.h.e.to Ev)) (ha : a.Is Int ∧ a.to Int = x.h.s.to Int) (hb : b.Is Wt ∧ b.to Wt = x.h.w.to Wt) (hc : c.Is Ev ∧ c.to Ev = x.h.e.to Ev) (hw : wt.Is Int ∧ wt.to Int = x.wt.to Int) (hh : hd.Is Int ∧ hd.to Int = x.hd.to Int) (hz : c.sz = 2 ∧ wt.sz = 1 ∧ hd.sz = 1 ∧ p.sz = 1) :
  Runs Try.prog ⟨w,H⟩ (clL p a b c wt hd x.fz (x.h.w.to Wt).length 0) (RetM w H (openPhi x)) := by
 obtain ⟨⟨_,rb,_,_,lb,_,rd⟩,_⟩ := hx
 rw [D.Is.length (α := Wt)] at lb
 refine runs_loop (fun q : Nat × D=>clL p a q.2 c wt hd x.fz (x.h.w.to Wt).length q.1) (fun q=>q.1 ≤ (x.h.w.to Wt).length ∧ q.2.Is Wt ∧ q.2.to Wt = x.h.w.to Wt) (fun q=>(x.h.w.to Wt).length - q.1) (fun _=>rfl) ?_ (0,b) ⟨Nat.zero_le _,hb⟩
 intro ⟨j,q⟩ ⟨hj,hq,hqt⟩ ih
 simp only at hj hq hqt ih
 show Runs _ _ (unroll (clL p a q c wt hd x.fz (x.h.w.to Wt).length j)) _
 apply execR_sound ctPOk 800
 rw [cl_go]
 have hql := D.Is.length (α := Wt) q
 refine ⟨fun hjc hs=>?_,fun hjc=>?_⟩
 ·have hjc : j < (x.h.w.to Wt).length := by have := of_decide_eq_true hjc; omega
  have hjq : j < (q.to Wt).length := by rw [hqt]; exact hjc
  obtain ⟨c1,c2,c3⟩ := wt_cell hq hjq
  have hqz := hq.size hjq
  have hwd := rd _ (List.getElem_mem hjc)
  have hdl : (q.cell j 2).len ≤ 1048576 := by
   rw [D.Is.length (α := Sec)]
   have : ((q.to Wt)[j]).data = (q.cell j 2).to Sec := by rw [c3]
   rw [← this]
   have e : (q.to Wt)[j] = (x.h.w.to Wt)[j] := by simp only [hqt]
   rw [e]; exact hwd
  have hs2 := set_data hq hjq (hs 13 0).hd
  have b1 : 0 ≤ (j : Int) ∧ (j : Int) < (q.len : Int) ∧ q.sz = 3 := ⟨by omega,by omega,hqz⟩
  refine ⟨b1,⟨c1.2.2.1,hqz⟩,⟨c2,hdl⟩,b1,⟨by simp only [Int.toNat_natCast]; omega,by rw [hqz]; exact Nat.le_refl 3,hqz⟩,?_⟩
  have := ih (j + 1,q.setCells j 2 [D.slc (hs 13 0).hd 8 (D.rows (q.cell j 2))]) ⟨hjc,hs2.1,by rw [hs2.2,hqt]⟩ (by simp only; omega)
  simp only at this
  rw [← wrap_succ hjc lb] at this
  exact this
 ·refine retM [(0,.cells 91 [.vec 1,.vec 2,.vec 3,.vec 4,.vec 5,.vec 6,.bool x.fz]),(1,.arr 4 p),(2,.arr 3 a),(3,.arr 31 q),(4,.arr 108 c),(5,.arr 3 wt),(6,.arr 3 hd)] (f := Try.f40) (l := [.ptr 0 0,.int .i64 0]) (by kernel_rfl) (by kernel_rfl) (List.Sublist.refl _) (by kernel_rfl) (by kernel_rfl) ?_
  exact .inr ⟨h0,rfl,p,a,q,c,wt,hd,rfl,hp,ha,⟨hq,hqt⟩,hc,hw,hh,hz⟩
theorem dv_loop {H : HV} {w : World} {x : GrD} (hx : x.Right) (h0 : (checkH x.gr.hist).1 = 0) (h1 : asc (x.wt.to Int) = true) {p s q : D} {i : Nat}
  (hp : p.Is Bool ∧ p.to Bool = ackd (x.h.w.to Wt).length (x.h.e.to Ev)) (hs : s.Is Bool ∧ s.to Bool = ackd (x.h.w.to Wt).length (x.h.e.to Ev)) (hq : q.Is Int ∧ q.to Int = x.wt.to Int ++ x.hd.to Int) (hpz : p.sz = 1) :
  Runs Try.prog ⟨w,H⟩ (dvL x.h.s x.h.w x.h.e x.wt x.hd p s q x.fz i 0) (RetM w H (openPhi x)) := by
 obtain ⟨⟨ra,rb,rc,la,lb,lc,rd⟩,rw',rh,lw,lh⟩ := id hx
 have al := D.Is.length (α := Int) x.h.s
 have bl := D.Is.length (α := Wt) x.h.w
 have cl := D.Is.length (α := Ev) x.h.e
 have wl := D.Is.length (α := Int) x.wt
 have hl := D.Is.length (α := Int) x.hd
 have ql := D.Is.length (α := Int) q
 obtain ⟨hq,hqt⟩ := hq
 have hqn : (q.to Int).length ≤ 2097152 := by rw [hqt,List.length_append]; omega
 have hn4 : (x.h.w.to Wt).length ≤ 4096 := (checkH_ok h0).2.2.2.1
 have hsl0 := hs
 -- errors
 have bad : markAll (q.to Int) (ackd (x.h.w.to Wt).length (x.h.e.to Ev)) = none → openErr x.gr = 3 := fun h=>by
  unfold openErr
  rw [if_neg (by simp [h0])]
  have hd' : divided x.gr = false := by
   unfold divided
   show (asc (x.wt.to Int) && match markAll (x.wt.to Int ++ x.hd.to Int) (ackd (x.h.w.to Wt).length (x.h.e.to Ev)) with | some s=>!s.any fun y=>decide (false = y) | none=>false) = false
   rw [← hqt,h]; simp
  rw [if_pos hd']
 have err3 : markAll (q.to Int) (ackd (x.h.w.to Wt).length (x.h.e.to Ev)) = none → (Tree.ret (.tup [.nilp,.int .i64 3])).holds Try.prog ⟨w,H⟩ (RetM w H (openPhi x)) := fun h =>
  ret_M rfl (.inl ⟨by rw [bad h]; decide,by rw [bad h],rfl⟩)
 refine runs_loop (fun u : Nat × D=>dvL x.h.s x.h.w x.h.e x.wt x.hd p u.2 q x.fz i u.1) (fun u=>u.1 ≤ (q.to Int).length ∧ u.2.Is Bool ∧ (u.2.to Bool).length = (x.h.w.to Wt).length ∧ markAll ((q.to Int).drop u.1) (u.2.to Bool) = markAll (q.to Int) (ackd (x.h.w.to Wt).length (x.h.e.to Ev))) (fun u=>(q.to Int).length - u.1) (fun _=>rfl) ?_ (0,s) ⟨Nat.zero_le _,hs.1,by rw [hs.2,ackd_len],by rw [hs.2]; rfl⟩
 intro ⟨j,s⟩ ⟨hj,hs,hsl,hm⟩ ih
 simp only at hj hs hsl hm ih
 show Runs _ _ (unroll (dvL x.h.s x.h.w x.h.e x.wt x.hd p s q x.fz i j)) _
 apply exec_sound ctPOk 800
 rw [dv_go]
 have sl := D.Is.length (α := Bool) s
 refine ⟨fun hjc=>?_,fun hjc=>?_⟩
 ·have hjc : j < (q.to Int).length := by have := of_decide_eq_true hjc; omega
  obtain ⟨c1,c2,c3⟩ := int_at hq hjc
  have hdrop : (q.to Int).drop j = (q.to Int)[j] :: (q.to Int).drop (j + 1) := List.drop_eq_getElem_cons hjc
  rw [hdrop] at hm
  rw [c3]
  generalize (q.to Int)[j] = v at *
  refine ⟨c1,⟨c2,c1.2.2⟩,fun hv=>err3 ?_,fun hv=>⟨fun hv2=>err3 ?_,fun hv2=>?_⟩⟩
  ·have := of_decide_eq_true hv
   rw [← hm]; exact mark_out (.inl this)
  ·have := of_decide_eq_true hv2
   rw [← hm]; exact mark_out (.inr (by omega))
  ·have hv := of_decide_eq_false hv
   have hv2 := of_decide_eq_false hv2
   have hvi : v.toNat < (s.to Bool).length := by omega
   obtain ⟨d1,d2,d3⟩ := bool_at hs hvi
   have hvv : ((v.toNat : Nat) : Int) = v := by omega
   rw [hvv] at d1 d2 d3
   have b1 : 0 ≤ v ∧ v < (s.len : Int) ∧ s.sz = 1 := d1
   have hgd : (s.to Bool).getD v.toNat false = (s.to Bool)[v.toNat] := by rw [List.getD_eq_getElem?_getD,List.getElem?_eq_getElem hvi]; rfl
   rw [d3]
   refine ⟨b1,⟨d2,d1.2.2⟩,fun hb=>err3 ?_,fun hb=>⟨b1,⟨by omega,by rw [d1.2.2]; exact Nat.le_refl 1,d1.2.2⟩,?_⟩⟩
   ·rw [← hm]; exact mark_hit (by rw [hgd]; exact hb)
   ·have hset := set_full hs hvi (xs := [D.bool true]) (x := true) rfl (ok_bool true) rfl
    have := ih (j + 1,s.setCells v.toNat 0 [D.bool true]) ⟨hjc,hset.1,by rw [hset.2,List.length_set]; exact hsl,by
     rw [← hm,mark_go (by omega) (by rw [hgd]; exact hb),hset.2]⟩ (by simp only; omega)
    simp only at this
    rw [show ((j + 1 : Nat) : Int) = IntKind.i64.wrap ((j : Int) + 1) by rw [wrap64 (by omega) (by omega)]; omega] at this
    exact this
 ·have : j = (q.to Int).length := by have := of_decide_eq_false hjc; omega
  subst this
  rw [List.drop_length] at hm
  have hm : some (s.to Bool) = markAll (q.to Int) (ackd (x.h.w.to Wt).length (x.h.e.to Ev)) := hm
  have hdv : divided x.gr = !(s.to Bool).any fun y=>decide (false = y) := by
   unfold divided
   show (asc (x.wt.to Int) && match markAll (x.wt.to Int ++ x.hd.to Int) (ackd (x.h.w.to Wt).length (x.h.e.to Ev)) with | some s=>!s.any fun y=>decide (false = y) | none=>false) = _
   rw [h1,← hqt,← hm]; rfl
  have hoe : openErr x.gr = if divided x.gr = false then 3 else if (x.hd.to Int).length > 0 ∧ x.fz = false then 12 else 0 := by
   unfold openErr
   rw [if_neg (by simp [h0])]; rfl
  refine ⟨⟨hs,by omega⟩,fun hb=>?_,fun hb=>?_⟩
  ·have he : openErr x.gr = 3 := by rw [hoe,hdv,if_pos (by simpa using hb)]
   exact ret_M rfl (.inl ⟨by rw [he]; decide,by rw [he],rfl⟩)
  ·have hdt : ¬(divided x.gr = false) := by rw [hdv]; simpa using hb
   rw [if_neg hdt] at hoe
   have fin : openErr x.gr = 0 → ∀ a b c d e,Runs Try.prog ⟨w,H⟩ (clL p (D.slc a 1 (D.rows x.h.s)) (D.slc b 3 (D.rows x.h.w)) (D.slc c 2 (D.rows x.h.e)) (D.slc d 1 (D.rows x.wt)) (D.slc e 1 (D.rows x.hd)) x.fz (x.h.w.to Wt).length 0) (RetM w H (openPhi x)) := fun he a b c d e =>
    cl_loop hx he hp (is_of rfl (rows_of ra)) (is_of rfl (rows_of rb)) (is_of rfl (rows_of rc)) (is_of rfl (rows_of rw')) (is_of rfl (rows_of rh)) ⟨rfl,rfl,rfl,hpz⟩
   have fin2 : openErr x.gr = 0 → ∀ a b c d e,Runs Try.prog ⟨w,H⟩ (clL p (D.slc a 1 (D.rows x.h.s)) (D.slc b 3 (D.rows x.h.w)) (D.slc c 2 (D.rows x.h.e)) (D.slc d 1 (D.rows x.wt)) (D.slc e 1 (D.rows x.hd)) x.fz (D.slc b 3 (D.rows x.h.w)).len 0) (RetM w H (openPhi x)) := fun he a b c d e=>by
    have := fin he a b c d e
    rw [← bl] at this
    exact this
   refine ⟨fun hg=>⟨fun hf=>?_,fun hf hs0=>⟨⟨rw',lw⟩,⟨rh,lh⟩,fun hs1=>⟨⟨ra,la⟩,⟨rc,lc⟩,⟨rb,lb⟩,?_⟩⟩⟩,fun hg hs0=>⟨⟨rw',lw⟩,⟨rh,lh⟩,fun hs1=>⟨⟨ra,la⟩,⟨rc,lc⟩,⟨rb,lb⟩,?_⟩⟩⟩
   ·have hg := of_decide_eq_true hg
    have he : openErr x.gr = 12 := by rw [hoe,if_pos ⟨by omega,by simpa using hf⟩]
    exact ret_M rfl (.inl ⟨by rw [he]; decide,by rw [he],rfl⟩)
   ·have he : openErr x.gr = 0 := by rw [hoe,if_neg (by simp at hf; simp [hf])]
    exact fin2 he _ _ _ _ _
   ·have hg := of_decide_eq_false hg
    have he : openErr x.gr = 0 := by rw [hoe,if_neg (by omega)]
    exact fin2 he _ _ _ _ _
theorem ctOOk : Ctrs.Ok Try.prog ctO := by
 intro x hx
 simp only [ctO,List.mem_cons,List.not_mem_nil,or_false] at hx
 rcases hx with rfl | rfl | rfl | rfl | rfl
 ·exact ctrOf_ok lawChkH
 ·exact oCtr_ok lawCl1
 ·exact oCtr_ok lawCl2
 ·exact oCtr_ok lawCl3
 ·exact oCtr_ok lawClW

theorem nilOf_rows {k : Nat} {d : D} (h : nilOf (.vec k) d = true) : d.rows = [] := by
 unfold nilOf at h
 cases hr : d.rows with
 | nil=>rfl
 | cons a l=>simp [hr] at h

theorem op_loop {H : HV} {w : World} {x : GrD} (hx : x.Right) (h0 : (checkH x.gr.hist).1 = 0) {p : D} (hp : p.Is Bool ∧ p.to Bool = List.replicate (x.h.w.to Wt).length false) (hpz : p.sz = 1) :
  Runs Try.prog ⟨w,H⟩ (opL x.h.s x.h.w x.h.e x.wt x.hd p x.fz 0) (RetM w H (openPhi x)) := by
 obtain ⟨⟨ra,rb,rc,la,lb,lc,rd⟩,rw',rh,lw,lh⟩ := id hx
 have bl := D.Is.length (α := Wt) x.h.w
 have cl := D.Is.length (α := Ev) x.h.e
 have hn4 : (x.h.w.to Wt).length ≤ 4096 := (checkH_ok h0).2.2.2.1
 refine runs_loop (fun u : Nat × D=>opL x.h.s x.h.w x.h.e x.wt x.hd u.2 x.fz u.1) (fun u=>u.1 ≤ (x.h.e.to Ev).length ∧ (u.2.Is Bool ∧ u.2.to Bool = ackd (x.h.w.to Wt).length ((x.h.e.to Ev).take u.1)) ∧ u.2.sz = 1) (fun u=>(x.h.e.to Ev).length - u.1) (fun _=>rfl) ?_ (0,p) ⟨Nat.zero_le _,hp,hpz⟩
 intro ⟨j,p⟩ ⟨hj,⟨hp,hpt⟩,hpz⟩ ih
 simp only at hj hp hpt hpz ih
 show Runs _ _ (unroll (opL x.h.s x.h.w x.h.e x.wt x.hd p x.fz j)) _
 apply exec_sound ctPOk 800
 rw [op_go]
 have pl := D.Is.length (α := Bool) p
 have ptl : (p.to Bool).length = (x.h.w.to Wt).length := by rw [hpt,ackd_len]
 refine ⟨fun hjc=>?_,fun hjc=>?_⟩
 ·have hjc : j < (x.h.e.to Ev).length := by have := of_decide_eq_true hjc; omega
  obtain ⟨c1,c2,c3⟩ := ev_cell rc hjc
  have hk := (checkH_ok h0).1.kind _ (List.getElem_mem hjc)
  have hle := (checkH_ok h0).1.le
  have hst := ackd_step (n := (x.h.w.to Wt).length) hjc
  have g0 : x.h.e.getInt (Int.toNat (j : Int)) 0 = ((x.h.e.to Ev)[j]).kind := c2
  have g1 : x.h.e.getInt (Int.toNat (j : Int)) 1 = ((x.h.e.to Ev)[j]).write := c3
  rw [g0,g1]
  have hk : (((x.h.e.to Ev)[j]).kind = 0 ∨ ((x.h.e.to Ev)[j]).kind = 1) ∧ 0 ≤ ((x.h.e.to Ev)[j]).write ∧ ((x.h.e.to Ev)[j]).write < (checkH x.gr.hist).2.issued.length := hk
  have hle : (checkH x.gr.hist).2.issued.length ≤ (x.h.w.to Wt).length := hle
  generalize (x.h.e.to Ev)[j] = ev at *
  obtain ⟨k,v⟩ := ev
  simp only at hk
  refine ⟨⟨by omega,by omega,rc.size hjc⟩,c1,fun h1 hs=>?_,fun h1=>?_⟩
  ·have h1 : k = 1 := of_decide_eq_true h1
   have hvi : v.toNat < (p.to Bool).length := by omega
   have hz := hp.size hvi
   have hset := set_full hp hvi (xs := [D.bool true]) (x := true) rfl (ok_bool true) rfl
   refine ⟨⟨hk.2.1,by omega,hz⟩,⟨by omega,by rw [hz]; exact Nat.le_refl 1,hz⟩,?_⟩
   have := ih (j + 1,p.setCells v.toNat 0 [D.bool true]) ⟨hjc,⟨hset.1,by
    rw [hst,← hpt,hset.2]; unfold ackStep; rw [if_pos h1]⟩,hpz⟩ (by simp only; omega)
   simp only at this
   rw [← wrap_succ (n := 1048576) (by omega) (by omega)] at this
   exact this
  ·have h1 : ¬k = 1 := of_decide_eq_false h1
   have := ih (j + 1,p) ⟨hjc,⟨hp,by rw [hst,← hpt]; unfold ackStep; rw [if_neg h1]⟩,hpz⟩ (by simp only; omega)
   simp only at this
   rw [← wrap_succ (n := 1048576) (by omega) (by omega)] at this
   exact this
 ·have : j = (x.h.e.to Ev).length := by have := of_decide_eq_false hjc; omega
  subst this
  rw [List.take_length] at hpt
  have hplen : p.len ≤ 1048576 := by omega
  refine ⟨⟨rw',lw⟩,fun ha=>?_,fun ha=>?_⟩
  ·have he : openErr x.gr = 3 := by
    unfold openErr
    rw [if_neg (by simp [h0])]
    have : divided x.gr = false := by
     unfold divided
     have : asc x.gr.waiting = false := by
      show asc (x.wt.to Int) = false
      simpa using ha
     rw [this]; rfl
    rw [if_pos this]
   exact ret_M rfl (.inl ⟨by rw [he]; decide,by rw [he],rfl⟩)
  ·have ha : asc (x.wt.to Int) = true := by simpa using ha
   have hq : ∀ a : Hd,(D.slc a 1 (List.append (D.rows x.wt) (D.rows x.hd))).Is Int ∧ (D.slc a 1 (List.append (D.rows x.wt) (D.rows x.hd))).to Int = x.wt.to Int ++ x.hd.to Int := fun a =>
    is_of rfl ⟨fun r hr=>by
     rcases List.mem_append.1 hr with h | h
     ·exact (rows_of rw').1 r h
     ·exact (rows_of rh).1 r h,by simp only [append_list,List.map_append,(rows_of rw').2,(rows_of rh).2]⟩
   refine ⟨fun hn hs=>⟨⟨rw',rh,lw,lh⟩,?_⟩,fun hn hs=>⟨⟨rfl,hp.fits,by simp only [len_slc,List.length_nil]; omega,by simp only [len_slc,List.length_nil]; omega⟩,fun hs1 hs2=>⟨⟨rw',rh,lw,lh⟩,?_⟩⟩⟩
   ·have hr0 : p.rows = [] := nilOf_rows (k := 2) hn
    have hp0 : p.to Bool = [] := by have := (rows_of hp).2; rw [hr0] at this; exact this.symm
    exact vecIn_to 99 4 1 none 3 (dvL x.h.s x.h.w x.h.e x.wt x.hd p (.slc none 1 []) (D.slc (hs 11 0).hd 1 (List.append (D.rows x.wt) (D.rows x.hd))) x.fz (x.h.e.to Ev).length 0) (by kernel_rfl)
     (dv_loop hx h0 ha ⟨hp,hpt⟩ ⟨is_nil _ _,by rw [← hpt,hp0]; rfl⟩ (hq _) hpz)
   ·exact dv_loop hx h0 ha ⟨hp,hpt⟩ (by have := copy_at (α := Bool) (s := 1) rfl hp (hs1 0 0).hd (hs 0 0).hd; rw [hpt] at this; exact this) (hq _) hpz

end Go.Proofs.Ytodhhmjilnfecaa
end
section
open Go Go.Proofs Sx
namespace Go.Proofs.Ytodhhmjilnfecaa
set_option maxRecDepth 100000
set_option maxHeartbeats 0
section
variable (n j k w v s : Int) (ha hb hc wt hd p e : D) (fz : Bool)

theorem gc_in : goS Try.prog [] (fun _=>false) [(40,1)] 50 (entry Try.prog 30 [.agg [.dat ha,.dat hb,.dat hc,.dat wt,.dat hd,.bool fz]]) =
 Tree.leaf
 (Conf.mk
 (SFrm.mk 40 none none [Item.code (cAt Try.prog 40 [0]),Item.code (cAt Try.prog 40 [1])]
 (mkJ 1 [(0,.agg [.dat ha,.dat hb,.dat hc,.dat wt,.dat hd,.bool fz])] 0 130))
 [SFrm.mk 30 (some (opsAt Try.prog 30 [1,0],[2,3,4,5,6])) (some 7) [Item.code (cAt Try.prog 30 [1,1])]
 (mkJ 0 [] 0 11)]
 []) := by kernel_rfl

theorem gi_in : goS Try.prog [] (fun _=>false) [(40,1)] 50 (entry Try.prog 13 [.agg [.dat ha,.dat hb,.dat hc,.dat wt,.dat hd,.bool fz],.agg [.int .i64 v,.int .i64 s,.dat e]]) =
 Tree.leaf
 (Conf.mk
 (SFrm.mk 40 none none [Item.code (cAt Try.prog 40 [0]),Item.code (cAt Try.prog 40 [1])]
 (mkJ 1 [(0,.agg [.dat ha,.dat hb,.dat hc,.dat wt,.dat hd,.bool fz])] 0 130))
 [SFrm.mk 13 (some (opsAt Try.prog 13 [1,0],[2,3,4,5,6])) (some 13) [Item.code (cAt Try.prog 13 [1,1])]
 (mkJ 0 [(3,.ptr 0 0),(4,.ptr 1 0)] 0 57)]
 [(0,OBlk.cells 31 [.int .i64 v,.int .i64 s,.dat e]),
 (1,OBlk.cells 28 [.nils,.nils,.nils,.nils,.nils,.lb false])]) := by kernel_rfl

theorem gd_in : goS Try.prog [] (fun _=>false) [(40,1)] 50 (entry Try.prog 15 [.agg [.dat ha,.dat hb,.dat hc,.dat wt,.dat hd,.bool fz],.int .i64 n]) =
 Tree.leaf
 (Conf.mk
 (SFrm.mk 40 none none [Item.code (cAt Try.prog 40 [0]),Item.code (cAt Try.prog 40 [1])]
 (mkJ 1 [(0,.agg [.dat ha,.dat hb,.dat hc,.dat wt,.dat hd,.bool fz])] 0 130))
 [SFrm.mk 15 (some (opsAt Try.prog 15 [1,0],[2,3,4,5,6])) (some 12) [Item.code (cAt Try.prog 15 [1,1])]
 (mkJ 0 [(1,.int .i64 n),(4,.ptr 0 0)] 0 72)]
 [(0,OBlk.cells 28 [.nils,.nils,.nils,.nils,.nils,.lb false])]) := by kernel_rfl

theorem gf_in : goS Try.prog [] (fun _=>false) [(40,1)] 50 (entry Try.prog 19 [.agg [.dat ha,.dat hb,.dat hc,.dat wt,.dat hd,.bool fz]]) =
 Tree.leaf
 (Conf.mk
 (SFrm.mk 40 none none [Item.code (cAt Try.prog 40 [0]),Item.code (cAt Try.prog 40 [1])]
 (mkJ 1 [(0,.agg [.dat ha,.dat hb,.dat hc,.dat wt,.dat hd,.bool fz])] 0 130))
 [SFrm.mk 19 (some (opsAt Try.prog 19 [1,0],[2,3,4,5,6])) (some 9) [Item.code (cAt Try.prog 19 [1,1])]
 (mkJ 0 [(1,.ptr 0 0),(2,.ptr 1 0)] 0 33)]
 [(0,OBlk.cells 28 [.dat ha,.dat hb,.dat hc,.dat wt,.dat hd,.bool fz]),
 (1,OBlk.cells 28 [.nils,.nils,.nils,.nils,.nils,.lb false])]) := by kernel_rfl

theorem gt_in : goS Try.prog [] (fun _=>false) [(40,1)] 50 (entry Try.prog 21 [.agg [.dat ha,.dat hb,.dat hc,.dat wt,.dat hd,.bool fz]]) =
 Tree.leaf
 (Conf.mk
 (SFrm.mk 40 none none [Item.code (cAt Try.prog 40 [0]),Item.code (cAt Try.prog 40 [1])]
 (mkJ 1 [(0,.agg [.dat ha,.dat hb,.dat hc,.dat wt,.dat hd,.bool fz])] 0 130))
 [SFrm.mk 21 (some (opsAt Try.prog 21 [1,0],[2,3,4,5,6])) (some 10) [Item.code (cAt Try.prog 21 [1,1])]
 (mkJ 0 [(1,.ptr 0 0),(2,.ptr 1 0)] 0 45)]
 [(0,OBlk.cells 28 [.dat ha,.dat hb,.dat hc,.dat wt,.dat hd,.bool fz]),
 (1,OBlk.cells 28 [.nils,.nils,.nils,.nils,.nils,.lb false])]) := by kernel_rfl


end
end Go.Proofs.Ytodhhmjilnfecaa
end
section
open Go Go.Proofs Sx
namespace Go.Proofs.Ytodhhmjilnfecaa
set_option maxRecDepth 100000
set_option maxHeartbeats 0
noncomputable def opC (ha hb hc wt hd : D) (fz : Bool) : SFrm := SFrm.mk 40 none none [Item.code (cAt Try.prog 40 [0]),Item.code (cAt Try.prog 40 [1])] (mkJ 1 [(0,.agg [.dat ha,.dat hb,.dat hc,.dat wt,.dat hd,.bool fz])] 0 130)
def okV : SV := .tup [.ptr 500 0,.int .i64 0]
def okM (p a b c wt hd : D) (fz : Bool) : Mem := [(500,.cells 91 [.vec 501,.vec 502,.vec 503,.vec 504,.vec 505,.vec 506,.bool fz]),(501,.arr 4 p),(502,.arr 3 a),(503,.arr 31 b),(504,.arr 108 c),(505,.arr 3 wt),(506,.arr 3 hd)]
noncomputable def gcA (v : SV) (m : Mem) : Conf := Conf.mk (SFrm.mk 30 (some (opsAt Try.prog 30 [1,0],[2,3,4,5,6])) none [Item.code (cAt Try.prog 30 [1,1])] (putS (mkJ 0 [] 0 11) (some 7) v)) [] m
noncomputable def gfA (ha hb hc wt hd : D) (fz : Bool) (v : SV) (m : Mem) : Conf := Conf.mk (SFrm.mk 19 (some (opsAt Try.prog 19 [1,0],[2,3,4,5,6])) none [Item.code (cAt Try.prog 19 [1,1])] (putS (mkJ 0 [(1,.ptr 0 0),(2,.ptr 1 0)] 0 33) (some 9) v)) []
 (m ++ [(0,.cells 28 [.dat ha,.dat hb,.dat hc,.dat wt,.dat hd,.bool fz]),(1,.cells 28 [.nils,.nils,.nils,.nils,.nils,.lb false])])
section
variable (n j k w v s : Int) (ha hb hc wt hd p a b c x y : D) (fz : Bool)
theorem opC_in : exec Try.prog ctO 300 (Conf.mk (opC ha hb hc wt hd fz) [] []) =
 Tree.need (HiD.Right (HiD.mk ha hb hc))
 (.br (Prod.fst (checkH (HiD.hist (HiD.mk ha hb hc))) != 0)
 (.ret (SV.tup [SV.nilp,.int .i64 (Prod.fst (checkH (HiD.hist (HiD.mk ha hb hc))))]))
 (.need
 (0 ≤ (↑(D.len hb) : Int) ∧
 (↑(D.len hb) : Int) = (↑(D.len hb) : Int) ∧
 (↑1 : Int) * (↑(D.len hb) : Int) ≤ 281474976710656 ∧ (↑(D.len hb) : Int) ≤ 9223372036854775807)
 (.all fun hs =>
 .leaf
 (Conf.mk
 (SFrm.mk 40 none none
 [Item.inLoop (cAt Try.prog 40 [1,1,1,1,0,1,0,0]),Item.inBlock 0,
 Item.code (cAt Try.prog 40 [1,1,1,1,1])]
 (mkJ 0
 [(1,.ptr 0 0),(5,.ptr 1 0),(30,.dat hc),(31,.int .i64 (↑(D.len hc) : Int)),
 (32,.int .i64 0)]
 0 130))
 []
 [(0,OBlk.cells 28 [.dat ha,.dat hb,.dat hc,.dat wt,.dat hd,.bool fz]),
 (1,OBlk.cells 91 [.vec 2,.dat ha,.dat hb,.dat hc,.dat wt,.dat hd,.bool fz]),
 (2,
 OBlk.arr 4
 (D.slc (D.hd (hs 0 0)) 1 (List.replicate (Int.toNat (↑(D.len hb) : Int)) [D.bool false])))])))) := by kernel_rfl

theorem gcE_go : exec Try.prog [] 100 (gcA (.tup [.nilp,.int .i64 k]) []) =
 Tree.ret (.int .i64 k) := by kernel_rfl

theorem gcO_go : exec Try.prog [] 100 (gcA okV (okM p a b c x y fz)) =
 Tree.ret (.int .i64 0) := by kernel_rfl

theorem gfE_go : exec Try.prog [] 200 (gfA ha hb hc wt hd fz (.tup [.nilp,.int .i64 k]) []) =
 Tree.br (k != 0)
 (.ret
 (SV.tup
 [.agg [.nils,.nils,.nils,.nils,.nils,.lb false],.int .i64 0,.int .i64 k]))
 (.br fz
 (.ret
 (SV.tup
 [.agg [.nils,.nils,.nils,.nils,.nils,.lb false],.int .i64 0,
 .int .i64 26]))
 Tree.stuck) := by kernel_rfl

theorem gfO_go : exec Try.prog [] 200 (gfA ha hb hc wt hd fz okV (okM p a b c x y fz)) =
 Tree.br false
 (.ret
 (SV.tup
 [.agg [.nils,.nils,.nils,.nils,.nils,.lb false],.int .i64 0,.int .i64 0]))
 (.br fz
 (.ret
 (SV.tup
 [.agg [.nils,.nils,.nils,.nils,.nils,.lb false],.int .i64 0,
 .int .i64 26]))
 (.all fun hs =>
 .ret
 (SV.tup
 [.agg [.dat a,.dat b,.dat c,.dat x,.dat y,.lb true],
 .int .i64 (↑(D.len hb) : Int),.int .i64 0]))) := by kernel_rfl

end
end Go.Proofs.Ytodhhmjilnfecaa
end
section
open Go Go.Proofs Sx
namespace Go.Proofs.Ytodhhmjilnfecaa
set_option maxRecDepth 100000

theorem opCRuns {H : HV} {w : World} {x : GrD} (hx : x.Right) :
  Runs Try.prog ⟨w,H⟩ (Conf.mk (opC x.h.s x.h.w x.h.e x.wt x.hd x.fz) [] []) (RetM w H (openPhi x)) := by
 obtain ⟨⟨ra,rb,rc,la,lb,lc,rd⟩,rw',rh,lw,lh⟩ := id hx
 have bl := D.Is.length (α := Wt) x.h.w
 apply exec_sound ctOOk 300
 rw [opC_in]
 refine ⟨hx.1,fun he=>?_,fun he=>⟨⟨by omega,rfl,by omega,by omega⟩,fun hs=>?_⟩⟩
 ·have he : (checkH x.gr.hist).1 ≠ 0 := by
   show (checkH (HiD.hist (HiD.mk x.h.s x.h.w x.h.e))).1 ≠ 0
   simpa using he
  have e2 : openErr x.gr = (checkH x.gr.hist).1 := by unfold openErr; rw [if_pos he]
  exact ret_M rfl (.inl ⟨by rw [e2]; exact he,by rw [e2]; rfl,rfl⟩)
 ·have he : (checkH x.gr.hist).1 = 0 := by
   show (checkH (HiD.hist (HiD.mk x.h.s x.h.w x.h.e))).1 = 0
   simpa using he
  refine op_loop hx he ?_ rfl
  rw [Int.toNat_natCast,bl]
  refine is_of rfl ⟨fun r hr=>?_,?_⟩
  ·rw [List.eq_of_mem_replicate hr]; exact ok_bool false
  ·rw [List.map_replicate]; rfl

theorem opC_pure {ha hb hc wt hd : D} {fz : Bool} : ∀ k,k ∉ SV.keysL (opC ha hb hc wt hd fz).tmps := fun k hk=>by
 have h : SV.keysL (opC ha hb hc wt hd fz).tmps = [] := by kernel_rfl
 rw [h] at hk; cases hk

theorem lawCkG : Law Try.prog 30 (rdGr.one.sp spCkG) := by
 refine law_in _ (by kernel_rfl) fun H w ⟨⟨ha,hb,hc⟩,wt,hd,fz⟩ hok hp=>?_
 have hx : GrD.Right ⟨⟨ha,hb,hc⟩,wt,hd,fz⟩ := hp _ (List.mem_singleton.2 rfl)
 apply goS_sound (noCtr _) (fun _=>false) [(40,1)] 50
 rw [show rdGr.one.canon ⟨⟨ha,hb,hc⟩,wt,hd,fz⟩ = [.agg [.dat ha,.dat hb,.dat hc,.dat wt,.dat hd,.bool fz]] from rfl,gc_in]
 refine runs_frame (Φ := openPhi ⟨⟨ha,hb,hc⟩,wt,hd,fz⟩) (top := opC ha hb hc wt hd fz) opC_pure (fun k hk=>?_) (fun H w _=>opCRuns hx) fun v m hv=>?_
 ·exfalso
  revert hk
  show k ∉ _
  have h : SV.keysL (mkJ 0 [] 0 11) ++ ((([] : List SFrm).flatMap fun f=>SV.keysL f.tmps) ++ Mem.named []) = [] := by kernel_rfl
  intro hk
  have hk : k ∈ SV.keysL (mkJ 0 [] 0 11) ++ ((([] : List SFrm).flatMap fun f=>SV.keysL f.tmps) ++ Mem.named []) := hk
  rw [h] at hk; cases hk
 ·rcases hv with ⟨h0,rfl,rfl⟩ | ⟨h0,rfl,p,a,b,c,x,y,rfl,_⟩
  ·show Runs _ _ (gcA (.tup [.nilp,.int .i64 (openErr (GrD.gr ⟨⟨ha,hb,hc⟩,wt,hd,fz⟩))]) []) _
   apply exec_sound (noCtr _) 100
   rw [gcE_go]
   exact ret_int rfl
  ·show Runs _ _ (gcA okV (okM p a b c x y fz)) _
   apply exec_sound (noCtr _) 100
   rw [gcO_go]
   exact ret_int h0.symm
theorem stands_zG {F : SV} (hf : ∀ E,F.den E = .bool false) : StandsG (.agg [.nils,.nils,.nils,.nils,.nils,F]) zGr :=
 stands_gr stands_nils stands_nils stands_nils stands_nils stands_nils hf rfl

theorem lawFrzG : Law Try.prog 19 (rdGr.one.sp spFrzG) := by
 refine law_in _ (by kernel_rfl) fun H w ⟨⟨ha,hb,hc⟩,wt,hd,fz⟩ hok hp=>?_
 have hx : GrD.Right ⟨⟨ha,hb,hc⟩,wt,hd,fz⟩ := hp _ (List.mem_singleton.2 rfl)
 have bl := D.Is.length (α := Wt) hb
 apply goS_sound (noCtr _) (fun _=>false) [(40,1)] 50
 rw [show rdGr.one.canon ⟨⟨ha,hb,hc⟩,wt,hd,fz⟩ = [.agg [.dat ha,.dat hb,.dat hc,.dat wt,.dat hd,.bool fz]] from rfl,gf_in]
 refine runs_frame (Φ := openPhi ⟨⟨ha,hb,hc⟩,wt,hd,fz⟩) (top := opC ha hb hc wt hd fz) opC_pure (fun k hk=>?_) (fun H w _=>opCRuns hx) fun v m hv=>?_
 ·have h : (SV.keysL (mkJ 0 [(1,.ptr 0 0),(2,.ptr 1 0)] 0 33) ++ ((([] : List SFrm).flatMap fun f=>SV.keysL f.tmps) ++ Mem.named [(0,.cells 28 [.dat ha,.dat hb,.dat hc,.dat wt,.dat hd,.bool fz]),(1,.cells 28 [.nils,.nils,.nils,.nils,.nils,.lb false])])).all (fun k=>decide (k < 500)) = true := by kernel_rfl
  exact of_decide_eq_true (List.all_eq_true.1 h k hk)
 ·rcases hv with ⟨h0,rfl,rfl⟩ | ⟨h0,rfl,p,a,b,c,x,y,rfl,hP,hA,hB,hC,hX,hY,hZ⟩
  ·show Runs _ _ (gfA ha hb hc wt hd fz (.tup [.nilp,.int .i64 (openErr (GrD.gr ⟨⟨ha,hb,hc⟩,wt,hd,fz⟩))]) []) _
   have hfr : freezeG (GrD.gr ⟨⟨ha,hb,hc⟩,wt,hd,fz⟩) = (zGr,0,openErr (GrD.gr ⟨⟨ha,hb,hc⟩,wt,hd,fz⟩)) := by unfold freezeG; rw [if_pos h0]
   apply exec_sound (noCtr _) 200
   rw [gfE_go]
   refine ⟨fun _=>ret_grII ?_ ?_ ?_,fun h=>absurd (by simpa using h) h0⟩
   ·rw [hfr]; exact stands_zG fun _=>rfl
   ·rw [hfr]
   ·rw [hfr]
  ·show Runs _ _ (gfA ha hb hc wt hd fz okV (okM p a b c x y fz)) _
   apply exec_sound (noCtr _) 200
   rw [gfO_go]
   refine ⟨fun h=>Bool.noConfusion h,fun _=>⟨fun hf=>?_,fun hf hs=>?_⟩⟩
   ·have hfr : freezeG (GrD.gr ⟨⟨ha,hb,hc⟩,wt,hd,fz⟩) = (zGr,0,26) := by unfold freezeG; rw [if_neg (by simpa using h0),if_pos (show (GrD.gr ⟨⟨ha,hb,hc⟩,wt,hd,fz⟩).frozen = true from hf)]
    refine ret_grII ?_ ?_ ?_
    ·rw [hfr]; exact stands_zG fun _=>rfl
    ·rw [hfr]
    ·rw [hfr]
   ·have hfr : freezeG (GrD.gr ⟨⟨ha,hb,hc⟩,wt,hd,fz⟩) = ((⟨⟨ha.to Int,hb.to Wt,hc.to Ev⟩,wt.to Int,hd.to Int,true⟩ : Gr),((hb.to Wt).length : Int),(0 : Int)) := by
     unfold freezeG
     rw [if_neg (by simpa using h0),if_neg (show ¬((GrD.gr ⟨⟨ha,hb,hc⟩,wt,hd,fz⟩).frozen = true) from by show ¬(fz = true); rw [hf]; simp)]
     rfl
    refine ret_grII ?_ ?_ ?_
    ·rw [hfr]
     exact stands_gr (s := ha.to Int) (ws := hb.to Wt) (es := hc.to Ev) (wt := wt.to Int) (hd := hd.to Int) (b := true) (stands_dat hA.1 hA.2) (stands_dat hB.1 hB.2) (stands_dat hC.1 hC.2) (stands_dat hX.1 hX.2) (stands_dat hY.1 hY.2) (fun _=>rfl) rfl
    ·rw [hfr,bl]
    ·rw [hfr]
end Go.Proofs.Ytodhhmjilnfecaa
end
section
open Go Go.Proofs Sx
namespace Go.Proofs.Ytodhhmjilnfecaa
set_option maxRecDepth 100000
set_option maxHeartbeats 0
noncomputable def gtA (ha hb hc wt hd : D) (fz : Bool) (v : SV) (m : Mem) : Conf := Conf.mk (SFrm.mk 21 (some (opsAt Try.prog 21 [1,0],[2,3,4,5,6])) none [Item.code (cAt Try.prog 21 [1,1])] (putS (mkJ 0 [(1,.ptr 0 0),(2,.ptr 1 0)] 0 45) (some 10) v)) []
 (m ++ [(0,.cells 28 [.dat ha,.dat hb,.dat hc,.dat wt,.dat hd,.bool fz]),(1,.cells 28 [.nils,.nils,.nils,.nils,.nils,.lb false])])
noncomputable def giA (vv s : Int) (e : D) (v : SV) (m : Mem) : Conf := Conf.mk (SFrm.mk 13 (some (opsAt Try.prog 13 [1,0],[2,3,4,5,6])) none [Item.code (cAt Try.prog 13 [1,1])] (putS (mkJ 0 [(3,.ptr 0 0),(4,.ptr 1 0)] 0 57) (some 13) v)) []
 (m ++ [(0,.cells 31 [.int .i64 vv,.int .i64 s,.dat e]),(1,.cells 28 [.nils,.nils,.nils,.nils,.nils,.lb false])])
noncomputable def gdA (n : Int) (v : SV) (m : Mem) : Conf := Conf.mk (SFrm.mk 15 (some (opsAt Try.prog 15 [1,0],[2,3,4,5,6])) none [Item.code (cAt Try.prog 15 [1,1])] (putS (mkJ 0 [(1,.int .i64 n),(4,.ptr 0 0)] 0 72) (some 12) v)) []
 (m ++ [(0,.cells 28 [.nils,.nils,.nils,.nils,.nils,.lb false])])
noncomputable def ctI : Ctrs := [(41,ctrOf ((rdHi.two rdWt).sp spIssueH)),(44,ctrOf ((rdD.two rdInt).sp spIxI))]
section
variable (n j k w v s : Int) (ha hb hc wt hd p a b c x y e : D) (fz : Bool)
theorem gtE_go : exec Try.prog [] 200 (gtA ha hb hc wt hd fz (.tup [.nilp,.int .i64 k]) []) =
 Tree.br (k != 0)
 (.ret (SV.tup [.agg [.nils,.nils,.nils,.nils,.nils,.lb false],.nils,.int .i64 k]))
 (.br (!fz)
 (.ret
 (SV.tup [.agg [.nils,.nils,.nils,.nils,.nils,.lb false],.nils,.int .i64 12]))
 Tree.stuck) := by kernel_rfl

theorem gtO_go : goS Try.prog [] (fun _=>false) [] 300 (gtA ha hb hc wt hd fz okV (okM p a b c x y fz)) =
 Tree.br false
 (.ret (SV.tup [.agg [.nils,.nils,.nils,.nils,.nils,.lb false],.nils,.int .i64 0]))
 (.br (!fz)
 (.ret
 (SV.tup [.agg [.nils,.nils,.nils,.nils,.nils,.lb false],.nils,.int .i64 12]))
 (.leaf
 (Conf.mk
 (SFrm.mk 53 none none [Item.inLoop (cAt Try.prog 53 [1,0,0]),Item.inBlock 0]
 (mkJ 1
 [(1,SV.fn 46 [.ptr 0 0] []),(6,.vec 1),(7,.int .i64 (↑(D.len y) : Int)),
 (8,.int .i64 0)]
 0 16))
 [SFrm.mk 21 (some (opsAt Try.prog 21 [1,1,1,1,1,0],[])) (some 39)
 [Item.code (cAt Try.prog 21 [1,1,1,1,1,1])]
 (mkJ 0
 [(1,.ptr 2 0),(2,.ptr 3 0),(5,.ptr 0 0),(6,.int .i64 0),(7,.vec 1),
 (8,SV.tup [.ptr 0 0,.int .i64 0]),(10,SV.tup [.ptr 0 0,.int .i64 0]),
 (11,.ptr 0 0),(12,.int .i64 0),(13,.bool false),(14,.int .i64 0),
 (15,.bool false),(18,.bool !fz),(19,.ptr 2 5),(20,.bool fz),(21,.bool !fz),
 (23,.ptr 0 0),(24,.ptr 0 0),(25,.ptr 0 1),(26,.ptr 0 5),(27,.vec 1),
 (28,.ptr 0 0),(29,.ptr 0 0),(30,.ptr 0 0),(31,.ptr 0 1),(32,.ptr 0 6),
 (33,.ptr 0 0),(34,.ptr 0 1),(35,.ptr 0 5),(36,.vec 1),(37,.ptr 0 0),
 (38,SV.fn 46 [.ptr 0 0] [])]
 0 45)]
 [(0,OBlk.cells 91 [.vec 4,.vec 5,.vec 6,.vec 7,.vec 8,.nils,.lb false]),(1,OBlk.arr 3 y),
 (2,OBlk.cells 28 [.dat ha,.dat hb,.dat hc,.dat wt,.dat hd,.bool fz]),
 (3,OBlk.cells 28 [.nils,.nils,.nils,.nils,.nils,.lb false]),(4,OBlk.arr 4 p),
 (5,OBlk.arr 3 a),(6,OBlk.arr 31 b),(7,OBlk.arr 108 c),(8,OBlk.arr 3 x)]))) := by kernel_rfl

theorem giE_go : exec Try.prog ctI 200 (giA v s e (.tup [.nilp,.int .i64 k]) []) =
 Tree.br (k != 0)
 (.ret
 (SV.tup
 [.agg [.nils,.nils,.nils,.nils,.nils,.lb false],.int .i64 0,.int .i64 k]))
 (.all fun hs=>Tree.stuck) := by kernel_rfl

theorem giO_go : exec Try.prog ctI 300 (giA v s e okV (okM p a b c x y fz)) =
 Tree.br false
 (.ret
 (SV.tup
 [.agg [.nils,.nils,.nils,.nils,.nils,.lb false],.int .i64 0,.int .i64 0]))
 (.all fun hs =>
 .need (HiD.Right (HiD.mk a b c) ∧ D.len c ≤ 1000000 ∧ WtD.Ok (WtD.mk v s e))
 (.br (Prod.snd (Prod.snd (issueH (HiD.hist (HiD.mk a b c)) (WtD.wt (WtD.mk v s e)))) != 0)
 (.ret
 (SV.tup
 [.agg [.nils,.nils,.nils,.nils,.nils,.lb false],.int .i64 0,
 .int .i64 (Prod.snd (Prod.snd (issueH (HiD.hist (HiD.mk a b c)) (WtD.wt (WtD.mk v s e)))))]))
 (.all fun hs_1 =>
 .need
 (D.sz x = 1 ∧
 D.Fits
 (D.slc (D.hd (hs_1 0 0)) 1
 [[D.int .i64
 (Prod.fst (Prod.snd (issueH (HiD.hist (HiD.mk a b c)) (WtD.wt (WtD.mk v s e)))))]])
 1 ∧
 (D.len x +
 D.len
 (D.slc (D.hd (hs_1 0 0)) 1
 [[D.int .i64
 (Prod.fst (Prod.snd (issueH (HiD.hist (HiD.mk a b c)) (WtD.wt (WtD.mk v s e)))))]])) *
 8 ≤
 140737488355328 ∧
 D.len x +
 D.len
 (D.slc (D.hd (hs_1 0 0)) 1
 [[D.int .i64
 (Prod.fst (Prod.snd (issueH (HiD.hist (HiD.mk a b c)) (WtD.wt (WtD.mk v s e)))))]]) ≤
 9223372036854775807)
 (.all fun hs_2 =>
 .ret
 (SV.tup
 [.agg
 [.dat
 (D.like (hs 6 0)
 (Hist.sizes (Prod.fst (issueH (HiD.hist (HiD.mk a b c)) (WtD.wt (WtD.mk v s e)))))),
 .dat
 (D.like (hs 6 1)
 (Hist.writes (Prod.fst (issueH (HiD.hist (HiD.mk a b c)) (WtD.wt (WtD.mk v s e)))))),
 .dat
 (D.like (hs 6 2)
 (Hist.events (Prod.fst (issueH (HiD.hist (HiD.mk a b c)) (WtD.wt (WtD.mk v s e)))))),
 .dat
 (D.slc (D.hd (hs_2 0 0)) 1
 (List.append (D.rows x)
 (D.rows
 (D.slc (D.hd (hs_1 0 0)) 1
 [[D.int .i64
 (Prod.fst
 (Prod.snd (issueH (HiD.hist (HiD.mk a b c)) (WtD.wt (WtD.mk v s e)))))]])))),
 .dat y,.bool fz],
 .int .i64 (Prod.fst (Prod.snd (issueH (HiD.hist (HiD.mk a b c)) (WtD.wt (WtD.mk v s e))))),
 .int .i64 0]))))) := by kernel_rfl

theorem gdE_go : exec Try.prog ctI 200 (gdA n (.tup [.nilp,.int .i64 k]) []) =
 Tree.br (k != 0)
 (.ret (SV.tup [.agg [.nils,.nils,.nils,.nils,.nils,.lb false],.nils,.int .i64 k]))
 Tree.stuck := by kernel_rfl


end
end Go.Proofs.Ytodhhmjilnfecaa
end
section
open Go Go.Proofs Sx
namespace Go.Proofs.Ytodhhmjilnfecaa
set_option maxRecDepth 100000

theorem ctIOk : Ctrs.Ok Try.prog ctI := by
 intro x hx
 simp only [ctI,List.mem_cons,List.not_mem_nil,or_false] at hx
 rcases hx with rfl | rfl
 ·exact ctrOf_ok lawIssue
 ·exact ctrOf_ok lawIxW

theorem lawIssueG : Law Try.prog 13 ((rdGr.two rdWt).sp spIssueG) := by
 refine law_in _ (by kernel_rfl) fun H w ⟨⟨⟨ha,hb,hc⟩,wt,hd,fz⟩,⟨vv,s,e⟩⟩ hok hp=>?_
 obtain ⟨hx,hcl,hwo⟩ := hp _ (List.mem_singleton.2 rfl)
 have hx : GrD.Right ⟨⟨ha,hb,hc⟩,wt,hd,fz⟩ := hx
 have hcl : hc.len ≤ 1000000 := hcl
 have hcl' := D.Is.length (α := Ev) hc
 have wl := D.Is.length (α := Int) wt
 have al := D.Is.length (α := Int) ha
 have bl := D.Is.length (α := Wt) hb
 obtain ⟨⟨ra,rb,rc,la,lb,lc,rd⟩,rw',rh,lw,lh⟩ := id hx
 simp only at ra rb rc la lb lc rd rw' rh lw lh
 apply goS_sound (noCtr _) (fun _=>false) [(40,1)] 50
 rw [show (rdGr.two rdWt).canon (⟨⟨ha,hb,hc⟩,wt,hd,fz⟩,⟨vv,s,e⟩) = [.agg [.dat ha,.dat hb,.dat hc,.dat wt,.dat hd,.bool fz],.agg [.int .i64 vv,.int .i64 s,.dat e]] from rfl,gi_in]
 refine runs_frame (Φ := openPhi ⟨⟨ha,hb,hc⟩,wt,hd,fz⟩) (top := opC ha hb hc wt hd fz) opC_pure (fun k hk=>?_) (fun H w _=>opCRuns hx) fun v m hv=>?_
 ·have h : (SV.keysL (mkJ 0 [(3,.ptr 0 0),(4,.ptr 1 0)] 0 57) ++ ((([] : List SFrm).flatMap fun f=>SV.keysL f.tmps) ++ Mem.named [(0,.cells 31 [.int .i64 vv,.int .i64 s,.dat e]),(1,.cells 28 [.nils,.nils,.nils,.nils,.nils,.lb false])])).all (fun k=>decide (k < 500)) = true := by kernel_rfl
  exact of_decide_eq_true (List.all_eq_true.1 h k hk)
 ·rcases hv with ⟨h0,rfl,rfl⟩ | ⟨h0,rfl,p,a,b,c,x,y,rfl,hP,hA,hB,hC,hX,hY,hZ⟩
  ·show Runs _ _ (giA vv s e (.tup [.nilp,.int .i64 (openErr (GrD.gr ⟨⟨ha,hb,hc⟩,wt,hd,fz⟩))]) []) _
   have hfr := issueG_e1 (w := WtD.wt ⟨vv,s,e⟩) h0
   apply exec_sound ctIOk 200
   rw [giE_go]
   refine ⟨fun _=>ret_grII ?_ ?_ ?_,fun h=>absurd (by simpa using h) h0⟩
   ·rw [hfr]; exact stands_zG fun _=>rfl
   ·rw [hfr]
   ·rw [hfr]
  ·show Runs _ _ (giA vv s e okV (okM p a b c x y fz)) _
   have hH : HiD.hist ⟨a,b,c⟩ = (GrD.gr ⟨⟨ha,hb,hc⟩,wt,hd,fz⟩).hist := by
    show (⟨a.to Int,b.to Wt,c.to Ev⟩ : Hist) = ⟨ha.to Int,hb.to Wt,hc.to Ev⟩
    rw [hA.2,hB.2,hC.2]
   have cl := D.Is.length (α := Ev) c
   have al' := D.Is.length (α := Int) a
   have bl' := D.Is.length (α := Wt) b
   have xl := D.Is.length (α := Int) x
   have ea : a.len = ha.len := by rw [al',al,hA.2]
   have eb : b.len = hb.len := by rw [bl',bl,hB.2]
   have ec : c.len = hc.len := by rw [cl,hcl',hC.2]
   have ex : x.len = wt.len := by rw [xl,wl,hX.2]
   have app : ∀ {d : D} {h1 h2 : Hd} {n : Int},d.Is Int → (D.slc h1 1 (List.append (D.rows d) (D.rows (D.slc h2 1 [[D.int IntKind.i64 n]])))).Is Int ∧ (D.slc h1 1 (List.append (D.rows d) (D.rows (D.slc h2 1 [[D.int IntKind.i64 n]])))).to Int = d.to Int ++ [n] := fun hd =>
    is_of rfl ⟨fun r hr=>by
     rcases List.mem_append.1 hr with h | h
     ·exact (rows_of hd).1 r h
     ·rw [List.mem_singleton.1 h]; exact ok_int _,by simp only [append_list,List.map_append,(rows_of hd).2]; rfl⟩
   apply exec_sound ctIOk 300
   rw [giO_go]
   refine ⟨fun h=>Bool.noConfusion h,fun _ hs=>⟨⟨⟨hA.1,hB.1,hC.1,by simp only; omega,by simp only; omega,by simp only; omega,by
    intro q hq; rw [hB.2] at hq; exact rd q hq⟩,by omega,hwo⟩,fun he=>?_,fun he hs1=>⟨⟨?_,.inr rfl,?_,?_⟩,fun hs2=>?_⟩⟩⟩
   ·rw [hH] at he ⊢
    have he : (issueH (GrD.gr ⟨⟨ha,hb,hc⟩,wt,hd,fz⟩).hist (WtD.wt ⟨vv,s,e⟩)).2.2 ≠ 0 := by simpa using he
    have hfr := issueG_e2 h0 he
    refine ret_grII ?_ ?_ ?_
    ·rw [hfr]; exact stands_zG fun _=>rfl
    ·rw [hfr]
    ·rw [hfr]
   ·exact hZ.2.1
   ·simp only [len_slc,List.length_cons,List.length_nil]; omega
   ·simp only [len_slc,List.length_cons,List.length_nil]; omega
   ·rw [hH] at he ⊢
    have he : (issueH (GrD.gr ⟨⟨ha,hb,hc⟩,wt,hd,fz⟩).hist (WtD.wt ⟨vv,s,e⟩)).2.2 = 0 := by simpa using he
    have hfr := issueG_ok h0 he
    refine ret_grII ?_ ?_ ?_
    ·rw [hfr]
     refine stands_gr stands_like stands_like stands_like (stands_dat ?_ ?_) (stands_dat hY.1 hY.2) (fun _=>rfl) rfl
     ·exact (app hX.1).1
     ·rw [(app hX.1).2,hX.2]; rfl
    ·rw [hfr]
    ·rw [hfr]
end Go.Proofs.Ytodhhmjilnfecaa
end
section
open Go Go.Proofs Sx
namespace Go.Proofs.Ytodhhmjilnfecaa
set_option maxRecDepth 100000
set_option maxHeartbeats 0
noncomputable def thL (ha hb hc wt hd p a b c x y : D) (fz : Bool) (j : Int) : Conf := Conf.mk (SFrm.mk 53 none none [Item.inLoop (cAt Try.prog 53 [1,0,0]),Item.inBlock 0] (mkJ 1 [(1,.fn 46 [.ptr 0 0] []),(6,.vec 1),(7,.int .i64 y.len),(8,.int .i64 j)] 0 16))
 [SFrm.mk 21 (some (opsAt Try.prog 21 [1,1,1,1,1,0],[])) (some 39) [Item.code (cAt Try.prog 21 [1,1,1,1,1,1])] (mkJ 0 [(1,.ptr 2 0),(2,.ptr 3 0),(5,.ptr 0 0),(6,.int .i64 0),(7,.vec 1),(8,.tup [.ptr 0 0,.int .i64 0]),(10,.tup [.ptr 0 0,.int .i64 0]),(11,.ptr 0 0),(12,.int .i64 0),(13,.bool false),(14,.int .i64 0),(15,.bool false),(18,.bool !fz),(19,.ptr 2 5),(20,.bool fz),(21,.bool !fz),(23,.ptr 0 0),(24,.ptr 0 0),(25,.ptr 0 1),(26,.ptr 0 5),(27,.vec 1),(28,.ptr 0 0),(29,.ptr 0 0),(30,.ptr 0 0),(31,.ptr 0 1),(32,.ptr 0 6),(33,.ptr 0 0),(34,.ptr 0 1),(35,.ptr 0 5),(36,.vec 1),(37,.ptr 0 0),(38,.fn 46 [.ptr 0 0] [])] 0 45)]
 [(0,.cells 91 [.vec 4,.vec 5,.vec 6,.vec 7,.vec 8,.nils,.lb false]),(1,.arr 3 y),(2,.cells 28 [.dat ha,.dat hb,.dat hc,.dat wt,.dat hd,.bool fz]),(3,.cells 28 [.nils,.nils,.nils,.nils,.nils,.lb false]),(4,.arr 4 p),(5,.arr 3 a),(6,.arr 31 b),(7,.arr 108 c),(8,.arr 3 x)]
section
variable (n j k w v s : Int) (ha hb hc wt hd p a b c x y e : D) (fz : Bool)
theorem th_go : goS Try.prog [] (fun _=>false) [] 300 (unroll (thL ha hb hc wt hd p a b c x y fz j)) =
 Tree.br (decide (j < (↑(D.len y) : Int)))
 (.need (0 ≤ j ∧ j < (↑(D.len y) : Int) ∧ D.sz y = 1)
 (.need (D.HasCell y (Int.toNat j) 0 (FT.int .i64) ∧ D.sz y = 1)
 (.all fun hs =>
 .need
 (D.sz c = 2 ∧
 D.Fits (D.slc (D.hd (hs 0 0)) 2 [[D.int .i64 1,D.int .i64 (D.getInt y (Int.toNat j) 0)]]) 2 ∧
 (D.len c +
 D.len
 (D.slc (D.hd (hs 0 0)) 2
 [[D.int .i64 1,D.int .i64 (D.getInt y (Int.toNat j) 0)]])) *
 16 ≤
 140737488355328 ∧
 D.len c +
 D.len
 (D.slc (D.hd (hs 0 0)) 2
 [[D.int .i64 1,D.int .i64 (D.getInt y (Int.toNat j) 0)]]) ≤
 9223372036854775807)
 (.all fun hs_1 =>
 .need (0 ≤ D.getInt y (Int.toNat j) 0 ∧ D.getInt y (Int.toNat j) 0 < (↑(D.len p) : Int) ∧ D.sz p = 1)
 (.need (Int.toNat (D.getInt y (Int.toNat j) 0) < D.len p ∧ 1 ≤ D.sz p ∧ D.sz p = 1)
 (.leaf
 (Conf.mk
 (SFrm.mk 53 none none [Item.inLoop (cAt Try.prog 53 [1,0,0]),Item.inBlock 0]
 (mkJ 1
 [(1,SV.fn 46 [.ptr 0 0] []),(6,.vec 1),(7,.int .i64 (↑(D.len y) : Int)),
 (8,.int .i64 (IntKind.wrap .i64 (j + 1)))]
 0 16))
 [SFrm.mk 21 (some (opsAt Try.prog 21 [1,1,1,1,1,0],[])) (some 39)
 [Item.code (cAt Try.prog 21 [1,1,1,1,1,1])]
 (mkJ 0
 [(1,.ptr 2 0),(2,.ptr 3 0),(5,.ptr 0 0),(6,.int .i64 0),(7,.vec 1),
 (8,SV.tup [.ptr 0 0,.int .i64 0]),
 (10,SV.tup [.ptr 0 0,.int .i64 0]),(11,.ptr 0 0),
 (12,.int .i64 0),(13,.bool false),(14,.int .i64 0),
 (15,.bool false),(18,.bool !fz),(19,.ptr 2 5),(20,.bool fz),
 (21,.bool !fz),(23,.ptr 0 0),(24,.ptr 0 0),(25,.ptr 0 1),(26,.ptr 0 5),
 (27,.vec 1),(28,.ptr 0 0),(29,.ptr 0 0),(30,.ptr 0 0),(31,.ptr 0 1),
 (32,.ptr 0 6),(33,.ptr 0 0),(34,.ptr 0 1),(35,.ptr 0 5),(36,.vec 1),
 (37,.ptr 0 0),(38,SV.fn 46 [.ptr 0 0] [])]
 0 45)]
 [(0,OBlk.cells 91 [.vec 4,.vec 5,.vec 6,.vec 7,.vec 8,.nils,.lb false]),
 (1,OBlk.arr 3 y),
 (2,OBlk.cells 28 [.dat ha,.dat hb,.dat hc,.dat wt,.dat hd,.bool fz]),
 (3,OBlk.cells 28 [.nils,.nils,.nils,.nils,.nils,.lb false]),
 (4,OBlk.arr 4 (D.setCells p (Int.toNat (D.getInt y (Int.toNat j) 0)) 0 [D.bool true])),
 (5,OBlk.arr 3 a),(6,OBlk.arr 31 b),
 (7,
 OBlk.arr 108
 (D.slc (D.hd (hs_1 0 0)) 2
 (List.append (D.rows c)
 (D.rows
 (D.slc (D.hd (hs 0 0)) 2
 [[D.int .i64 1,D.int .i64 (D.getInt y (Int.toNat j) 0)]]))))),
 (8,OBlk.arr 3 x)])))))))
 (.ret
 (SV.tup [.agg [.dat a,.dat b,.dat c,.dat x,.nils,.lb false],.dat y,.int .i64 0])) := by kernel_rfl

end
end Go.Proofs.Ytodhhmjilnfecaa
end
section
open Go Go.Proofs Sx
namespace Go.Proofs.Ytodhhmjilnfecaa
set_option maxRecDepth 100000

theorem th_loop {H : HV} {w : World} {x : GrD} (hx : x.Right) (h0 : openErr x.gr = 0) (hf : x.fz = true) {p a b c wt y : D}
  (hp : p.Is Bool ∧ (p.to Bool).length = (x.h.w.to Wt).length) (ha : a.Is Int ∧ a.to Int = x.h.s.to Int) (hb : b.Is Wt ∧ b.to Wt = x.h.w.to Wt) (hc : c.Is Ev ∧ c.to Ev = x.h.e.to Ev) (hcz : c.sz = 2) (hw : wt.Is Int ∧ wt.to Int = x.wt.to Int) (hy : y.Is Int ∧ y.to Int = x.hd.to Int) :
  Runs Try.prog ⟨w,H⟩ (thL x.h.s x.h.w x.h.e x.wt x.hd p a b c wt y x.fz 0) (RetD w H fun ds=>.tup [grSV ds (thawG x.gr).1,.dat ((ds 5).like (thawG x.gr).2.1),.int .i64 (thawG x.gr).2.2]) := by
 obtain ⟨⟨ra,rb,rc,la,lb,lc,rd⟩,rw',rh,lw,lh⟩ := id hx
 have cl := D.Is.length (α := Ev) x.h.e
 have hl := D.Is.length (α := Int) x.hd
 have hin := (openErr_in h0).2.2
 have hn4 : (x.h.w.to Wt).length ≤ 4096 := (checkH_ok (openErr_in h0).1).2.2.2.1
 have yl := D.Is.length (α := Int) y
 refine runs_loop (fun u : Nat × D × D=>thL x.h.s x.h.w x.h.e x.wt x.hd u.2.1 a b u.2.2 wt y x.fz u.1) (fun u=>u.1 ≤ (x.hd.to Int).length ∧ (u.2.1.Is Bool ∧ (u.2.1.to Bool).length = (x.h.w.to Wt).length) ∧ u.2.2.Is Ev ∧ u.2.2.to Ev = x.h.e.to Ev ++ ((x.hd.to Int).take u.1).map (Ev.mk 1) ∧ u.2.2.sz = 2) (fun u=>(x.hd.to Int).length - u.1) (fun _=>rfl) ?_ (0,p,c) ⟨Nat.zero_le _,hp,hc.1,by simp [hc.2],hcz⟩
 intro ⟨j,p,c⟩ ⟨hj,⟨hp,hpl⟩,hc,hct,hcz⟩ ih
 simp only at hj hp hpl hc hct hcz ih
 show Runs _ _ (unroll (thL x.h.s x.h.w x.h.e x.wt x.hd p a b c wt y x.fz j)) _
 apply goS_sound (noCtr _) (fun _=>false) [] 300
 rw [th_go]
 have pl := D.Is.length (α := Bool) p
 have cl2 := D.Is.length (α := Ev) c
 rw [hct,List.length_append,List.length_map,List.length_take] at cl2
 refine ⟨fun hjc=>?_,fun hjc=>?_⟩
 ·have hjc : j < (x.hd.to Int).length := by have := of_decide_eq_true hjc; rw [hy.2] at yl; omega
  have hjy : j < (y.to Int).length := by rw [hy.2]; exact hjc
  obtain ⟨c1,c2,c3⟩ := int_at hy.1 hjy
  have he : (y.to Int)[j] = (x.hd.to Int)[j] := by simp only [hy.2]
  have hv := hin ((x.hd.to Int)[j]) (List.mem_append_right _ (List.getElem_mem hjc))
  have hv : 0 ≤ (x.hd.to Int)[j] ∧ (x.hd.to Int)[j] < ((x.h.w.to Wt).length : Int) := hv
  have htk := List.take_succ_eq_append_getElem hjc
  rw [c3,he]
  generalize (x.hd.to Int)[j] = v at *
  have hvi : v.toNat < (p.to Bool).length := by omega
  have hz := hp.size hvi
  have hset := set_full hp hvi (xs := [D.bool true]) (x := true) rfl (ok_bool true) rfl
  refine ⟨c1,⟨c2,c1.2.2⟩,fun hs=>⟨⟨hcz,.inr rfl,by simp only [len_slc,List.length_cons,List.length_nil]; omega,by simp only [len_slc,List.length_cons,List.length_nil]; omega⟩,fun hs1=>⟨⟨hv.1,by omega,hz⟩,⟨by omega,by rw [hz]; exact Nat.le_refl 1,hz⟩,?_⟩⟩⟩
  have hap : (D.slc (hs1 0 0).hd 2 (List.append (D.rows c) (D.rows (D.slc (hs 0 0).hd 2 [[D.int IntKind.i64 1,D.int IntKind.i64 v]])))).Is Ev ∧ (D.slc (hs1 0 0).hd 2 (List.append (D.rows c) (D.rows (D.slc (hs 0 0).hd 2 [[D.int IntKind.i64 1,D.int IntKind.i64 v]])))).to Ev = c.to Ev ++ [⟨1,v⟩] :=
   is_of rfl ⟨fun r hr=>by
    rcases List.mem_append.1 hr with h | h
    ·exact (rows_of hc).1 r h
    ·rw [List.mem_singleton.1 h]; exact ⟨_,_,rfl⟩,by simp only [append_list,List.map_append,(rows_of hc).2]; rfl⟩
  have := ih (j + 1,p.setCells v.toNat 0 [D.bool true],_) ⟨hjc,⟨hset.1,by rw [hset.2,List.length_set]; exact hpl⟩,hap.1,by
   rw [hap.2,hct,htk,List.map_append,List.append_assoc]; rfl,rfl⟩ (by simp only; omega)
  simp only at this
  rw [← wrap_succ hjc (by omega)] at this
  exact this
 ·have : j = (x.hd.to Int).length := by have := of_decide_eq_false hjc; rw [hy.2] at yl; omega
  subst this
  rw [List.take_length] at hct
  have ht := thawG_ok h0 (show x.gr.frozen = true from hf)
  refine ret_grLI ?_ ?_ ?_
  ·rw [ht]
   exact stands_gr (stands_dat ha.1 ha.2) (stands_dat hb.1 hb.2) (stands_dat hc hct) (stands_dat hw.1 hw.2) stands_nils (fun _=>rfl) rfl
  ·rw [ht]; exact stands_dat hy.1 hy.2
  ·rw [ht]
theorem lawThawG : Law Try.prog 21 (rdGr.one.sp spThawG) := by
 refine law_in _ (by kernel_rfl) fun H w ⟨⟨ha,hb,hc⟩,wt,hd,fz⟩ hok hp=>?_
 have hx : GrD.Right ⟨⟨ha,hb,hc⟩,wt,hd,fz⟩ := hp _ (List.mem_singleton.2 rfl)
 apply goS_sound (noCtr _) (fun _=>false) [(40,1)] 50
 rw [show rdGr.one.canon ⟨⟨ha,hb,hc⟩,wt,hd,fz⟩ = [.agg [.dat ha,.dat hb,.dat hc,.dat wt,.dat hd,.bool fz]] from rfl,gt_in]
 refine runs_frame (Φ := openPhi ⟨⟨ha,hb,hc⟩,wt,hd,fz⟩) (top := opC ha hb hc wt hd fz) opC_pure (fun k hk=>?_) (fun H w _=>opCRuns hx) fun v m hv=>?_
 ·have h : (SV.keysL (mkJ 0 [(1,.ptr 0 0),(2,.ptr 1 0)] 0 45) ++ ((([] : List SFrm).flatMap fun f=>SV.keysL f.tmps) ++ Mem.named [(0,.cells 28 [.dat ha,.dat hb,.dat hc,.dat wt,.dat hd,.bool fz]),(1,.cells 28 [.nils,.nils,.nils,.nils,.nils,.lb false])])).all (fun k=>decide (k < 500)) = true := by kernel_rfl
  exact of_decide_eq_true (List.all_eq_true.1 h k hk)
 ·rcases hv with ⟨h0,rfl,rfl⟩ | ⟨h0,rfl,p,a,b,c,x,y,rfl,hP,hA,hB,hC,hX,hY,hZ⟩
  ·show Runs _ _ (gtA ha hb hc wt hd fz (.tup [.nilp,.int .i64 (openErr (GrD.gr ⟨⟨ha,hb,hc⟩,wt,hd,fz⟩))]) []) _
   have hfr := thawG_e1 h0
   apply exec_sound (noCtr _) 200
   rw [gtE_go]
   refine ⟨fun _=>ret_grLI ?_ ?_ ?_,fun h=>absurd (by simpa using h) h0⟩
   ·rw [hfr]; exact stands_zG fun _=>rfl
   ·rw [hfr]; exact stands_nils
   ·rw [hfr]
  ·show Runs _ _ (gtA ha hb hc wt hd fz okV (okM p a b c x y fz)) _
   apply goS_sound (noCtr _) (fun _=>false) [] 300
   rw [gtO_go]
   refine ⟨fun h=>Bool.noConfusion h,fun _=>⟨fun hf=>?_,fun hf=>?_⟩⟩
   ·have hfr := thawG_e2 h0 (show (GrD.gr ⟨⟨ha,hb,hc⟩,wt,hd,fz⟩).frozen = false by show fz = false; simpa using hf)
    refine ret_grLI ?_ ?_ ?_
    ·rw [hfr]; exact stands_zG fun _=>rfl
    ·rw [hfr]; exact stands_nils
    ·rw [hfr]
   ·have hf : fz = true := by simpa using hf
    exact th_loop (x := ⟨⟨ha,hb,hc⟩,wt,hd,fz⟩) hx h0 hf ⟨hP.1,by rw [hP.2,ackd_len]⟩ hA hB hC hZ.1 hX hY
end Go.Proofs.Ytodhhmjilnfecaa
end
section
open Go Go.Proofs Sx
namespace Go.Proofs.Ytodhhmjilnfecaa
set_option maxRecDepth 100000
set_option maxHeartbeats 0
noncomputable def ctNw : Ctrs := [(60,ctrOf (rdD.one.sp spNewH)),(64,ctrOf (rdD.one.sp spNewH))]
section
variable (d : D)
theorem nwG_in : exec Try.prog ctNw 200 (entry Try.prog 25 [.dat d]) =
 Tree.need (D.Is Int d ∧ D.len d ≤ 1048576)
 (.all fun hs =>
 .br (Prod.snd (newH (D.to Int d)) != 0)
 (.ret
 (SV.tup
 [.agg [.nils,.nils,.nils,.nils,.nils,.lb false],
 .int .i64 (Prod.snd (newH (D.to Int d)))]))
 (.ret
 (SV.tup
 [.agg
 [.dat (D.like (hs 0 0) (Hist.sizes (Prod.fst (newH (D.to Int d))))),
 .dat (D.like (hs 0 1) (Hist.writes (Prod.fst (newH (D.to Int d))))),
 .dat (D.like (hs 0 2) (Hist.events (Prod.fst (newH (D.to Int d))))),.nils,.nils,.lb false],
 .int .i64 0]))) := by kernel_rfl

theorem nwGR_in : exec Try.prog ctNw 200 (entry Try.prog 29 [.dat d]) =
 Tree.need (D.Is Int d ∧ D.len d ≤ 1048576)
 (.all fun hs =>
 .br (Prod.snd (newH (D.to Int d)) != 0)
 (.ret
 (SV.tup
 [.agg [.nils,.nils,.nils,.nils,.nils,.lb false],
 .int .i64 (Prod.snd (newH (D.to Int d)))]))
 (.ret
 (SV.tup
 [.agg
 [.dat (D.like (hs 0 0) (Hist.sizes (Prod.fst (newH (D.to Int d))))),
 .dat (D.like (hs 0 1) (Hist.writes (Prod.fst (newH (D.to Int d))))),
 .dat (D.like (hs 0 2) (Hist.events (Prod.fst (newH (D.to Int d))))),.nils,.nils,.lb false],
 .int .i64 0]))) := by kernel_rfl

end
end Go.Proofs.Ytodhhmjilnfecaa
end
section
open Go Go.Proofs Sx
namespace Go.Proofs.Ytodhhmjilnfecaa
set_option maxRecDepth 100000

theorem ctNwOk : Ctrs.Ok Try.prog ctNw := by
 intro x hx
 simp only [ctNw,List.mem_cons,List.not_mem_nil,or_false] at hx
 rcases hx with rfl | rfl
 ·exact ctrOf_ok lawNewH
 ·exact ctrOf_ok lawNewHR
theorem newG_err {s : List Int} (h : (newH s).2 ≠ 0) : newG s = (zGr,(newH s).2) := by
 unfold newH at h ⊢; unfold newG
 by_cases h1 : sizesErr s ≠ 0
 ·rw [if_pos h1,if_pos h1]
 ·rw [if_neg h1] at h; exact absurd rfl h
theorem newG_ok {s : List Int} (h : (newH s).2 = 0) : newG s = ((⟨(newH s).1,[],[],false⟩ : Gr),(0 : Int)) := by
 unfold newH at h ⊢; unfold newG
 by_cases h1 : sizesErr s ≠ 0
 ·rw [if_pos h1] at h; exact absurd h h1
 ·rw [if_neg h1,if_neg h1]
theorem lawNewG : Law Try.prog 25 (rdD.one.sp spNewG) := by
 refine law_in _ (by kernel_rfl) fun H w d hok hp=>?_
 obtain ⟨hd,hlen⟩ := hp _ (List.mem_singleton.2 rfl)
 apply exec_sound ctNwOk 200
 rw [show rdD.one.canon d = [.dat d] from rfl,nwG_in]
 refine ⟨⟨hd,hlen⟩,fun hs=>⟨fun he=>?_,fun he=>?_⟩⟩
 ·have he := newG_err (s := d.to Int) (by simpa using he)
  refine ret_grI ?_ ?_
  ·rw [he]; exact stands_zG fun _=>rfl
  ·rw [he]
 ·have he := newG_ok (s := d.to Int) (by simpa using he)
  refine ret_grI ?_ ?_
  ·rw [he]; exact stands_gr stands_like stands_like stands_like stands_nils stands_nils (fun _=>rfl) rfl
  ·rw [he]
theorem lawNewGR : Law Try.prog 29 (rdD.one.sp spNewG) := by
 refine law_in _ (by kernel_rfl) fun H w d hok hp=>?_
 obtain ⟨hd,hlen⟩ := hp _ (List.mem_singleton.2 rfl)
 apply exec_sound ctNwOk 200
 rw [show rdD.one.canon d = [.dat d] from rfl,nwGR_in]
 refine ⟨⟨hd,hlen⟩,fun hs=>⟨fun he=>?_,fun he=>?_⟩⟩
 ·have he := newG_err (s := d.to Int) (by simpa using he)
  refine ret_grI ?_ ?_
  ·rw [he]; exact stands_zG fun _=>rfl
  ·rw [he]
 ·have he := newG_ok (s := d.to Int) (by simpa using he)
  refine ret_grI ?_ ?_
  ·rw [he]; exact stands_gr stands_like stands_like stands_like stands_nils stands_nils (fun _=>rfl) rfl
  ·rw [he]
end Go.Proofs.Ytodhhmjilnfecaa
end
section
open Go Go.Proofs Sx
namespace Go.Proofs.Ytodhhmjilnfecaa
set_option maxRecDepth 100000
set_option maxHeartbeats 0
noncomputable def ctDu : Ctrs := [(44,ctrOf ((rdD.two rdInt).sp spIxI)),(45,dCtr 3)]
section
variable (n j k w v s : Int) (p a b c x y e : D) (fz : Bool)
theorem duO_go : exec Try.prog ctDu 400 (gdA n okV (okM p a b c x y fz)) =
 Tree.br false
 (.ret (SV.tup [.agg [.nils,.nils,.nils,.nils,.nils,.lb false],.nils,.int .i64 0]))
 (.need (D.Is Int x ∧ D.len x ≤ 1048576)
 (.br (decide ((idxG (D.to Int x) fun y=>decide (n = y)) < 0))
 (.ret
 (SV.tup [.agg [.nils,.nils,.nils,.nils,.nils,.lb false],.nils,.int .i64 7]))
 (.need
 (D.Is Int x ∧
 (0 ≤ idxG (D.to Int x) fun y=>decide (n = y)) ∧
 (idxG (D.to Int x) fun y=>decide (n = y)) <
 IntKind.wrap .i64 ((idxG (D.to Int x) fun y=>decide (n = y)) + 1) ∧
 IntKind.wrap .i64 ((idxG (D.to Int x) fun y=>decide (n = y)) + 1) ≤ (↑(D.len x) : Int))
 (.all fun hs =>
 .br fz
 (.all fun hs =>
 .need
 (D.sz y = 1 ∧
 D.Fits (D.slc (D.hd (hs 0 0)) 1 [[D.int .i64 n]]) 1 ∧
 (D.len y + D.len (D.slc (D.hd (hs 0 0)) 1 [[D.int .i64 n]])) * 8 ≤ 140737488355328 ∧
 D.len y + D.len (D.slc (D.hd (hs 0 0)) 1 [[D.int .i64 n]]) ≤ 9223372036854775807)
 (.all fun hs_1 =>
 .ret
 (SV.tup
 [.agg
 [.dat a,.dat b,.dat c,
 .dat
 (D.slc (D.hd x) (D.sz x)
 (List.append
 (List.take (Int.toNat (idxG (D.to Int x) fun y=>decide (n = y))) (D.rows x))
 (List.drop
 (Int.toNat
 (IntKind.wrap .i64 ((idxG (D.to Int x) fun y=>decide (n = y)) + 1)))
 (D.rows x)))),
 .dat
 (D.slc (D.hd (hs_1 0 0)) 1
 (List.append (D.rows y) (D.rows (D.slc (D.hd (hs 0 0)) 1 [[D.int .i64 n]])))),
 .bool fz],
 .nils,.int .i64 0])))
 (.all fun hs =>
 .need
 (D.sz c = 2 ∧
 D.Fits (D.slc (D.hd (hs 0 0)) 2 [[D.int .i64 1,D.int .i64 n]]) 2 ∧
 (D.len c + D.len (D.slc (D.hd (hs 0 0)) 2 [[D.int .i64 1,D.int .i64 n]])) * 16 ≤
 140737488355328 ∧
 D.len c + D.len (D.slc (D.hd (hs 0 0)) 2 [[D.int .i64 1,D.int .i64 n]]) ≤
 9223372036854775807)
 (.all fun hs_1 =>
 .need (0 ≤ n ∧ n < (↑(D.len p) : Int) ∧ D.sz p = 1)
 (.need (Int.toNat n < D.len p ∧ 1 ≤ D.sz p ∧ D.sz p = 1)
 (.all fun hs_2 =>
 .ret
 (SV.tup
 [.agg
 [.dat a,.dat b,
 .dat
 (D.slc (D.hd (hs_1 0 0)) 2
 (List.append (D.rows c)
 (D.rows
 (D.slc (D.hd (hs 0 0)) 2 [[D.int .i64 1,D.int .i64 n]])))),
 .dat
 (D.slc (D.hd x) (D.sz x)
 (List.append
 (List.take (Int.toNat (idxG (D.to Int x) fun y=>decide (n = y))) (D.rows x))
 (List.drop
 (Int.toNat
 (IntKind.wrap .i64
 ((idxG (D.to Int x) fun y=>decide (n = y)) + 1)))
 (D.rows x)))),
 .dat y,.bool fz],
 .dat (D.slc (D.hd (hs_2 0 0)) 1 [[D.int .i64 n]]),.int .i64 0]))))))))) := by kernel_rfl

end
end Go.Proofs.Ytodhhmjilnfecaa
end
section
open Go Go.Proofs Go.Shelf Sx
namespace Go.Proofs.Ytodhhmjilnfecaa
def ren45 : Ren := ⟨fun | 23=>45 | n=>n,fun n=>n,fun n=>n⟩
theorem lays45 : Lays2.n23 Try.prog ren45 where
 mixed := by kernel_rfl
 f23 := Try.func45.trans (congrArg some (by kernel_rfl))
 t0 := Try.underlying0
 a0 := Try.isAgg0
 z0 := Try.sizeOf0
 v0 := Try.zeroValue0
 t3 := Try.underlying3
 a3 := Try.isAgg3
 z3 := Try.sizeOf3
 v3 := Try.zeroValue3
 t4 := Try.underlying4
 a4 := Try.isAgg4
 z4 := Try.sizeOf4
 v4 := Try.zeroValue4
 t22 := Try.underlying22
 a22 := Try.isAgg22
 z22 := Try.sizeOf22
 v22 := Try.zeroValue22
 i3 := by kernel_rfl

theorem del45 : Deletes Try.prog 45 := fun blk cap i j zs w hH hc hm hij hj=>Any.slices_Delete_int lays45 blk 0 cap i j zs w hH hc hm hij hj
theorem ctr45 : CtrOk Try.prog 45 (dCtr 3) := dCtr_ok (bodied_spec (by kernel_rfl)) del45
end Go.Proofs.Ytodhhmjilnfecaa
end
section
open Go Go.Proofs Sx
namespace Go.Proofs.Ytodhhmjilnfecaa
set_option maxRecDepth 100000

theorem ctDuOk : Ctrs.Ok Try.prog ctDu := by
 intro x hx
 simp only [ctDu,List.mem_cons,List.not_mem_nil,or_false] at hx
 rcases hx with rfl | rfl
 ·exact ctrOf_ok lawIxW
 ·exact ctr45
theorem app_int {d : D} {h1 h2 : Hd} {n : Int} (hd : d.Is Int) : (D.slc h1 1 (List.append (D.rows d) (D.rows (D.slc h2 1 [[D.int IntKind.i64 n]])))).Is Int ∧ (D.slc h1 1 (List.append (D.rows d) (D.rows (D.slc h2 1 [[D.int IntKind.i64 n]])))).to Int = d.to Int ++ [n] :=
 is_of rfl ⟨fun r hr=>by
  rcases List.mem_append.1 hr with h | h
  ·exact (rows_of hd).1 r h
  ·rw [List.mem_singleton.1 h]; exact ok_int _,by simp only [append_list,List.map_append,(rows_of hd).2]; rfl⟩
theorem app_ev {d : D} {h1 h2 : Hd} {k n : Int} (hd : d.Is Ev) : (D.slc h1 2 (List.append (D.rows d) (D.rows (D.slc h2 2 [[D.int IntKind.i64 k,D.int IntKind.i64 n]])))).Is Ev ∧ (D.slc h1 2 (List.append (D.rows d) (D.rows (D.slc h2 2 [[D.int IntKind.i64 k,D.int IntKind.i64 n]])))).to Ev = d.to Ev ++ [⟨k,n⟩] :=
 is_of rfl ⟨fun r hr=>by
  rcases List.mem_append.1 hr with h | h
  ·exact (rows_of hd).1 r h
  ·rw [List.mem_singleton.1 h]; exact ⟨_,_,rfl⟩,by simp only [append_list,List.map_append,(rows_of hd).2]; rfl⟩
theorem cut_int {d : D} {a : Hd} {s : Nat} (hs : s = 1) (hd : d.Is Int) (i j : Nat) : (D.slc a s (List.append (List.take i (D.rows d)) (List.drop j (D.rows d)))).Is Int ∧ (D.slc a s (List.append (List.take i (D.rows d)) (List.drop j (D.rows d)))).to Int = (d.to Int).take i ++ (d.to Int).drop j :=
 is_of hs ⟨fun r hr=>by
  rcases List.mem_append.1 hr with h | h
  ·exact (rows_of hd).1 r (List.mem_of_mem_take h)
  ·exact (rows_of hd).1 r (List.mem_of_mem_drop h),by simp only [append_list,List.map_append,List.map_take,List.map_drop,(rows_of hd).2]⟩

theorem lawDurG : Law Try.prog 15 ((rdGr.two rdInt).sp spDurG) := by
 refine law_in _ (by kernel_rfl) fun H w ⟨⟨⟨ha,hb,hc⟩,wt,hd,fz⟩,n⟩ hok hp=>?_
 have hx : GrD.Right ⟨⟨ha,hb,hc⟩,wt,hd,fz⟩ := hp _ (List.mem_singleton.2 rfl)
 obtain ⟨⟨ra,rb,rc,la,lb,lc,rd⟩,rw',rh,lw,lh⟩ := id hx
 simp only at ra rb rc la lb lc rd rw' rh lw lh
 apply goS_sound (noCtr _) (fun _=>false) [(40,1)] 50
 rw [show (rdGr.two rdInt).canon (⟨⟨ha,hb,hc⟩,wt,hd,fz⟩,n) = [.agg [.dat ha,.dat hb,.dat hc,.dat wt,.dat hd,.bool fz],.int .i64 n] from rfl,gd_in]
 refine runs_frame (Φ := openPhi ⟨⟨ha,hb,hc⟩,wt,hd,fz⟩) (top := opC ha hb hc wt hd fz) opC_pure (fun k hk=>?_) (fun H w _=>opCRuns hx) fun v m hv=>?_
 ·have h : (SV.keysL (mkJ 0 [(1,.int .i64 n),(4,.ptr 0 0)] 0 72) ++ ((([] : List SFrm).flatMap fun f=>SV.keysL f.tmps) ++ Mem.named [(0,.cells 28 [.nils,.nils,.nils,.nils,.nils,.lb false])])).all (fun k=>decide (k < 500)) = true := by kernel_rfl
  exact of_decide_eq_true (List.all_eq_true.1 h k hk)
 ·rcases hv with ⟨h0,rfl,rfl⟩ | ⟨h0,rfl,p,a,b,c,x,y,rfl,hP,hA,hB,hC,hX,hY,hZ⟩
  ·show Runs _ _ (gdA n (.tup [.nilp,.int .i64 (openErr (GrD.gr ⟨⟨ha,hb,hc⟩,wt,hd,fz⟩))]) []) _
   have hfr := durG_e1 (n := n) h0
   apply exec_sound ctIOk 200
   rw [gdE_go]
   refine ⟨fun _=>ret_grLI ?_ ?_ ?_,fun h=>absurd (by simpa using h) h0⟩
   ·rw [hfr]; exact stands_zG fun _=>rfl
   ·rw [hfr]; exact stands_nils
   ·rw [hfr]
  ·show Runs _ _ (gdA n okV (okM p a b c x y fz)) _
   have hX2 : x.to Int = (GrD.gr ⟨⟨ha,hb,hc⟩,wt,hd,fz⟩).waiting := hX.2
   have xl := D.Is.length (α := Int) x
   have wl := D.Is.length (α := Int) wt
   have yl := D.Is.length (α := Int) y
   have hl := D.Is.length (α := Int) hd
   have cl := D.Is.length (α := Ev) c
   have hcl := D.Is.length (α := Ev) hc
   have ex : x.len = wt.len := by rw [xl,wl,hX.2]
   have ey : y.len = hd.len := by rw [yl,hl,hY.2]
   have ec : c.len = hc.len := by rw [cl,hcl,hC.2]
   apply exec_sound ctDuOk 400
   rw [duO_go]
   rw [hX2] at xl
   simp only [hX2]
   refine ⟨fun h=>Bool.noConfusion h,fun _=>⟨⟨hX.1,by omega⟩,fun hn=>?_,fun hn=>?_⟩⟩
   ·have hfr := durG_e2 h0 (of_decide_eq_true hn)
    refine ret_grLI ?_ ?_ ?_
    ·rw [hfr]; exact stands_zG fun _=>rfl
    ·rw [hfr]; exact stands_nils
    ·rw [hfr]
   ·obtain ⟨j,hj,hjl,hjn⟩ := idxG_range (of_decide_eq_false hn)
    have hjn : n = (GrD.gr ⟨⟨ha,hb,hc⟩,wt,hd,fz⟩).waiting[j] := of_decide_eq_true hjn
    have hwj : IntKind.i64.wrap ((j : Int) + 1) = ((j + 1 : Nat) : Int) := by rw [wrap64 (by omega) (by omega)]; omega
    rw [hj,hwj]
    simp only [Int.toNat_natCast]
    have hcut := fun a=>cut_int (a := a) hZ.2.1 hX.1 j (j + 1)
    refine ⟨⟨hX.1,by omega,by omega,by omega⟩,fun hs=>⟨fun hf hs1=>⟨⟨hZ.2.2.1,.inr rfl,by simp only [len_slc,List.length_cons,List.length_nil]; omega,by simp only [len_slc,List.length_cons,List.length_nil]; omega⟩,fun hs2=>?_⟩,fun hf hs1=>⟨⟨hZ.1,.inr rfl,by simp only [len_slc,List.length_cons,List.length_nil]; omega,by simp only [len_slc,List.length_cons,List.length_nil]; omega⟩,fun hs2=>?_⟩⟩⟩
    ·have hfr := durG_fz h0 hj (show (GrD.gr ⟨⟨ha,hb,hc⟩,wt,hd,fz⟩).frozen = true from hf)
     refine ret_grLI ?_ ?_ ?_
     ·rw [hfr]
      refine stands_gr (stands_dat hA.1 hA.2) (stands_dat hB.1 hB.2) (stands_dat hC.1 hC.2) (stands_dat (hcut _).1 (hcut _).2) (stands_dat (app_int hY.1).1 (app_int hY.1).2) (fun _=>by rw [hf]; rfl) ?_
      rw [hX2,hY.2]; rfl
     ·rw [hfr]; exact stands_nils
     ·rw [hfr]
    ·have hin := (openErr_in h0).2.2 n (List.mem_append_left _ (by rw [hjn]; exact List.getElem_mem hjl))
     have hin : 0 ≤ n ∧ n < ((hb.to Wt).length : Int) := hin
     have pl := D.Is.length (α := Bool) p
     have hpl : (p.to Bool).length = (hb.to Wt).length := by rw [hP.2,ackd_len]
     have hvi : n.toNat < (p.to Bool).length := by omega
     have hz := hP.1.size hvi
     have hfr := durG_un h0 hj (show (GrD.gr ⟨⟨ha,hb,hc⟩,wt,hd,fz⟩).frozen = false from hf)
     refine ⟨⟨hin.1,by omega,hz⟩,⟨by omega,by rw [hz]; exact Nat.le_refl 1,hz⟩,fun hs3=>ret_grLI ?_ ?_ ?_⟩
     ·rw [hfr]
      refine stands_gr (stands_dat hA.1 hA.2) (stands_dat hB.1 hB.2) (stands_dat (app_ev hC.1).1 (app_ev hC.1).2) (stands_dat (hcut _).1 (hcut _).2) (stands_dat hY.1 hY.2) (fun _=>by rw [hf]; rfl) ?_
      rw [hX2,hC.2]; rfl
     ·rw [hfr]
      exact stands_dat (is_of (α := Int) (xs := [n]) rfl ⟨fun r hr=>by rw [List.mem_singleton.1 hr]; exact ok_int _,rfl⟩).1 (is_of (α := Int) (xs := [n]) rfl ⟨fun r hr=>by rw [List.mem_singleton.1 hr]; exact ok_int _,rfl⟩).2
     ·rw [hfr]
end Go.Proofs.Ytodhhmjilnfecaa
end
section
open Go Go.Proofs Sx
namespace Go.Proofs.Ytodhhmjilnfecaa
set_option maxRecDepth 100000
set_option maxHeartbeats 0
noncomputable def ctAt : Ctrs := [(86,ctrOf ((rdD.two rdEv).sp spAt))]
noncomputable def cntL (d : D) (n k j : Int) : Conf := Conf.mk (SFrm.mk 67 none none [Item.inLoop (cAt Try.prog 67 [1,1,0,1,0,0]),Item.inBlock 0,Item.code (cAt Try.prog 67 [1,1,1])] (mkJ 0 [(0,.dat d),(1,.int .i64 n),(5,.int .i64 k),(6,.int .i64 j)] 0 22)) [] []
noncomputable def woL (d r : D) (n j : Int) : Conf := Conf.mk (SFrm.mk 49 none none [Item.inLoop (cAt Try.prog 49 [1,1,0,1,0,0]),Item.inBlock 0,Item.code (cAt Try.prog 49 [1,1,1])] (mkJ 0 [(0,.dat d),(1,.int .i64 n),(5,.vec 0),(6,.int .i64 j)] 0 27)) [] [(0,.arr 3 r)]
section
variable (k j : Int) (n : Int) (ha hb hc d : D)
theorem cnt_in : exec Try.prog [] 200 (entry Try.prog 67 [.dat d,.int .i64 n]) =
 Tree.leaf
 (Conf.mk
 (SFrm.mk 67 none none
 [Item.inLoop (cAt Try.prog 67 [1,1,0,1,0,0]),Item.inBlock 0,Item.code (cAt Try.prog 67 [1,1,1])]
 (mkJ 0 [(0,.dat d),(1,.int .i64 n),(5,.int .i64 0),(6,.int .i64 0)] 0 22))
 [] []) := by kernel_rfl

theorem akd_in : exec Try.prog ctAt 200 (entry Try.prog 58 [.agg [.dat ha,.dat hb,.dat hc],.int .i64 n]) =
 Tree.need (D.Is Ev hc ∧ D.len hc ≤ 1048576) (.ret (.bool (decide (atEv (D.to Ev hc) (EvD.ev (EvD.mk 1 n)) ≥ 0)))) := by kernel_rfl

theorem wo_in : exec Try.prog [] 200 (entry Try.prog 49 [.dat d,.int .i64 n]) =
 Tree.leaf
 (Conf.mk
 (SFrm.mk 49 none none
 [Item.inLoop (cAt Try.prog 49 [1,1,0,1,0,0]),Item.inBlock 0,Item.code (cAt Try.prog 49 [1,1,1])]
 (mkJ 0 [(0,.dat d),(1,.int .i64 n),(5,.nils),(6,.int .i64 0)] 0 27))
 [] []) := by kernel_rfl

theorem cpd_in2 : execR Try.prog [] 200 (entry Try.prog 43 [.dat d,.dat ha]) =
 Tree.need (D.Fits d 1 ∧ D.len d * 8 ≤ 140737488355328 ∧ D.len d ≤ 9223372036854775807)
 (.all fun hs =>
 .need
 (D.sz (D.slc (D.hd (hs 0 0)) 1 (D.rows d)) = 1 ∧
 D.Fits ha 1 ∧
 (D.len (D.slc (D.hd (hs 0 0)) 1 (D.rows d)) + D.len ha) * 8 ≤ 140737488355328 ∧
 D.len (D.slc (D.hd (hs 0 0)) 1 (D.rows d)) + D.len ha ≤ 9223372036854775807)
 (.all fun hs_1 =>
 .leaf
 (Conf.mk
 (SFrm.mk 43 none none [Item.code (cAt Try.prog 43 [1,1,1])]
 (mkU
 [(0,.dat d),(1,.dat ha),(4,.vec 1010),(5,.nils),(6,.nils),(7,.dat d),
 (8,.vec 1008),(9,.dat ha),(10,.vec 1010)]
 0 11))
 []
 [(1010,
 OBlk.arr 3
 (D.slc (D.hd (hs_1 0 0)) 1
 (List.append (D.rows (D.slc (D.hd (hs 0 0)) 1 (D.rows d))) (D.rows ha))))]))) := by kernel_rfl

theorem cnt_go : exec Try.prog [] 200 (unroll (cntL d n k j)) =
 Tree.br (decide (j < (↑(D.len d) : Int)))
 (.need (0 ≤ j ∧ j < (↑(D.len d) : Int) ∧ D.sz d = 1)
 (.need (D.HasCell d (Int.toNat j) 0 (FT.int .i64))
 (.br (decide (D.getInt d (Int.toNat j) 0 = n))
 (.leaf
 (Conf.mk
 (SFrm.mk 67 none none
 [Item.inLoop (cAt Try.prog 67 [1,1,0,1,0,0]),Item.inBlock 0,Item.code (cAt Try.prog 67 [1,1,1])]
 (mkJ 0
 [(0,.dat d),(1,.int .i64 n),(5,.int .i64 (IntKind.wrap .i64 (k + 1))),
 (6,.int .i64 (IntKind.wrap .i64 (j + 1)))]
 0 22))
 [] []))
 (.leaf
 (Conf.mk
 (SFrm.mk 67 none none
 [Item.inLoop (cAt Try.prog 67 [1,1,0,1,0,0]),Item.inBlock 0,Item.code (cAt Try.prog 67 [1,1,1])]
 (mkJ 0
 [(0,.dat d),(1,.int .i64 n),(5,.int .i64 k),
 (6,.int .i64 (IntKind.wrap .i64 (j + 1)))]
 0 22))
 [] [])))))
 (.ret (.int .i64 k)) := by kernel_rfl

theorem wo_go : execR Try.prog [] 200 (unroll (woL d ha n j)) =
 Tree.br (decide (j < (↑(D.len d) : Int)))
 (.need (0 ≤ j ∧ j < (↑(D.len d) : Int) ∧ D.sz d = 1)
 (.need (D.HasCell d (Int.toNat j) 0 (FT.int .i64))
 (.br (D.getInt d (Int.toNat j) 0 != n)
 (.need (0 ≤ j ∧ j < (↑(D.len d) : Int) ∧ D.sz d = 1)
 (.need (D.HasCell d (Int.toNat j) 0 (FT.int .i64))
 (.all fun hs =>
 .need
 (D.sz ha = 1 ∧
 D.Fits (D.slc (D.hd (hs 0 0)) 1 [[D.int .i64 (D.getInt d (Int.toNat j) 0)]]) 1 ∧
 (D.len ha + D.len (D.slc (D.hd (hs 0 0)) 1 [[D.int .i64 (D.getInt d (Int.toNat j) 0)]])) *
 8 ≤
 140737488355328 ∧
 D.len ha + D.len (D.slc (D.hd (hs 0 0)) 1 [[D.int .i64 (D.getInt d (Int.toNat j) 0)]]) ≤
 9223372036854775807)
 (.all fun hs_1 =>
 .leaf
 (Conf.mk
 (SFrm.mk 49 none none
 [Item.inLoop (cAt Try.prog 49 [1,1,0,1,0,0]),Item.inBlock 0,
 Item.code (cAt Try.prog 49 [1,1,1])]
 (mkJ 0
 [(0,.dat d),(1,.int .i64 n),(5,.vec 0),
 (6,.int .i64 (IntKind.wrap .i64 (j + 1)))]
 0 27))
 []
 [(0,
 OBlk.arr 3
 (D.slc (D.hd (hs_1 0 0)) 1
 (List.append (D.rows ha)
 (D.rows
 (D.slc (D.hd (hs 0 0)) 1 [[D.int .i64 (D.getInt d (Int.toNat j) 0)]])))))])))))
 (.leaf
 (Conf.mk
 (SFrm.mk 49 none none
 [Item.inLoop (cAt Try.prog 49 [1,1,0,1,0,0]),Item.inBlock 0,Item.code (cAt Try.prog 49 [1,1,1])]
 (mkJ 0
 [(0,.dat d),(1,.int .i64 n),(5,.vec 0),
 (6,.int .i64 (IntKind.wrap .i64 (j + 1)))]
 0 27))
 [] [(0,OBlk.arr 3 ha)])))))
 (.leaf
 (Conf.mk
 (SFrm.mk 49 none none [Item.code (cAt Try.prog 49 [1,1,1,1])]
 (mkJ 0
 [(0,.dat d),(1,.int .i64 n),(4,.vec 0),(5,.vec 0),(6,.int .i64 j),
 (7,.int .i64 j),(8,.dat d),(9,.int .i64 (↑(D.len d) : Int)),
 (10,.bool (decide (j < (↑(D.len d) : Int)))),(26,.vec 0)]
 0 27))
 [] [(0,OBlk.arr 3 ha)])) := by kernel_rfl

end
end Go.Proofs.Ytodhhmjilnfecaa
end
section
open Go Go.Proofs Sx
namespace Go.Proofs.Ytodhhmjilnfecaa
set_option maxRecDepth 100000

theorem ctAtOk : Ctrs.Ok Try.prog ctAt := by
 intro x hx; rw [List.mem_singleton.1 hx]; exact ctrOf_ok lawAt
theorem lawAckd : Law Try.prog 58 ((rdHi.two rdInt).sp spAckd) := by
 refine law_in _ (by kernel_rfl) fun H w ⟨⟨ha,hb,hc⟩,n⟩ hok hp=>?_
 have hd : hc.Is Ev ∧ hc.len ≤ 1048576 := hp _ (List.mem_singleton.2 rfl)
 apply exec_sound ctAtOk 200
 rw [show (rdHi.two rdInt).canon (⟨ha,hb,hc⟩,n) = [.agg [.dat ha,.dat hb,.dat hc],.int .i64 n] from rfl,akd_in]
 exact ⟨hd,ret_bool rfl⟩
theorem lawCnt : Law Try.prog 67 ((rdD.two rdInt).sp spCnt) := by
 refine law_in _ (by kernel_rfl) fun H w ⟨d,n⟩ hok hp=>?_
 obtain ⟨hd,hlen⟩ := hp _ (List.mem_singleton.2 rfl)
 simp only at hd hlen
 have hl := D.Is.length (α := Int) d
 apply exec_sound (noCtr _) 200
 rw [show (rdD.two rdInt).canon (d,n) = [.dat d,.int .i64 n] from rfl,cnt_in]
 refine runs_loop (fun j : Nat=>cntL d n (cntI ((d.to Int).take j) n : Nat) j) (fun j=>j ≤ (d.to Int).length) (fun j=>(d.to Int).length - j) (fun _=>rfl) ?_ 0 (Nat.zero_le _)
 intro j hj ih
 apply exec_sound (noCtr _) 200
 rw [cnt_go]
 refine ⟨fun hc=>?_,fun hc=>ret_int ?_⟩
 ·have hc : j < (d.to Int).length := by have := of_decide_eq_true hc; omega
  obtain ⟨c1,c2,c3⟩ := int_at hd hc
  have hst := cntI_step (n := n) hc
  have hle := cntI_le ((d.to Int).take j) n
  rw [List.length_take] at hle
  have := ih (j + 1) hc (by omega)
  rw [← wrap_succ hc (by omega),hst] at this
  rw [c3]
  refine ⟨c1,c2,fun h=>?_,fun h=>?_⟩
  ·rw [if_pos (of_decide_eq_true h)] at this
   rw [← wrap_succ (n := 1048576) (by omega) (by omega)] at this
   exact this
  ·rw [if_neg (of_decide_eq_false h)] at this
   exact this
 ·have : j = (d.to Int).length := by have := of_decide_eq_false hc; omega
  subst this
  rw [List.take_length]
end Go.Proofs.Ytodhhmjilnfecaa
end
section
open Go Go.Proofs Sx
namespace Go.Proofs.Ytodhhmjilnfecaa
set_option maxRecDepth 100000
set_option maxHeartbeats 0
noncomputable def ctRk : Ctrs := [(65,ctrOf (rdHi.one.sp spCkI)),(66,ctrOf ((rdD.two rdInt).sp spSet)),(58,ctrOf ((rdHi.two rdInt).sp spAckd)),(67,ctrOf ((rdD.two rdInt).sp spCnt))]
noncomputable def ctRf : Ctrs := [(39,ctrOf (rdHi.one.sp spFew))]
noncomputable def ctRs2 : Ctrs := [(51,ctrOf ((rdHi.two rdHi).sp spSameH)),(52,ctrOf ((rdD.two rdD).sp spInts))]
section
variable (ha hb hc wt hd ha2 hb2 hc2 wt2 hd2 : D) (fz fz2 : Bool)
theorem rck_in : exec Try.prog ctRk 200 (entry Try.prog 31 [.agg [.dat ha,.dat hb,.dat hc,.dat wt,.dat hd,.bool fz]]) =
 Tree.need (HiD.Right (HiD.mk ha hb hc))
 (.br (Prod.fst (checkH (HiD.hist (HiD.mk ha hb hc))) != 0)
 (.ret (.int .i64 (Prod.fst (checkH (HiD.hist (HiD.mk ha hb hc))))))
 (.need (D.Is Int wt ∧ D.len wt ≤ 1048576)
 (.br (!setH (D.to Int wt) (↑(D.len hb) : Int)) (.ret (.int .i64 3))
 (.leaf
 (Conf.mk
 (SFrm.mk 31 none none
 [Item.inLoop (cAt Try.prog 31 [1,1,1,1,0,1,0,0]),Item.inBlock 0,
 Item.code (cAt Try.prog 31 [1,1,1,1,1])]
 (mkJ 0 [(1,.ptr 0 0),(4,.int .i64 (↑(D.len hb) : Int)),(5,.int .i64 0)] 0 74))
 [] [(0,OBlk.cells 28 [.dat ha,.dat hb,.dat hc,.dat wt,.dat hd,.bool fz])]))))) := by kernel_rfl

theorem rfew_in : exec Try.prog ctRf 200 (entry Try.prog 11 [.agg [.dat ha,.dat hb,.dat hc,.dat wt,.dat hd,.bool fz]]) =
 Tree.need (D.Is Int ha ∧ D.Is Wt hb ∧ D.Is Ev hc)
 (.br (fewH (HiD.hist (HiD.mk ha hb hc)))
 (.br (decide ((↑(D.len wt) : Int) ≤ 50)) (.ret (.bool (decide ((↑(D.len hd) : Int) ≤ 50))))
 (.ret (.lb false)))
 (.ret (.lb false))) := by kernel_rfl

theorem rsame_in : exec Try.prog ctRs2 200 (entry Try.prog 17 [.agg [.dat ha,.dat hb,.dat hc,.dat wt,.dat hd,.bool fz],.agg [.dat ha2,.dat hb2,.dat hc2,.dat wt2,.dat hd2,.bool fz2]]) =
 Tree.need (HiD.Right (HiD.mk ha hb hc) ∧ D.Is Int ha2 ∧ D.Is Wt hb2 ∧ D.Is Ev hc2)
 (.br (decide (HiD.hist (HiD.mk ha hb hc) = HiD.hist (HiD.mk ha2 hb2 hc2)))
 (.need (D.Is Int wt ∧ D.Is Int wt2 ∧ D.len wt ≤ 1048576)
 (.br (decide (D.to Int wt = D.to Int wt2))
 (.need (D.Is Int hd ∧ D.Is Int hd2 ∧ D.len hd ≤ 1048576)
 (.br (decide (D.to Int hd = D.to Int hd2)) (.ret (.bool (decide (fz = fz2))))
 (.ret (.lb false))))
 (.ret (.lb false))))
 (.ret (.lb false))) := by kernel_rfl

end
end Go.Proofs.Ytodhhmjilnfecaa
end
section
open Go Go.Proofs Sx
namespace Go.Proofs.Ytodhhmjilnfecaa
set_option maxRecDepth 100000
set_option maxHeartbeats 0
noncomputable def rckA (n : Int) (ha hb hc wt hd : D) (fz : Bool) (j : Int) : Conf := Conf.mk (SFrm.mk 31 none none [Item.inLoop (cAt Try.prog 31 [1,1,1,1,0,1,0,0]),Item.inBlock 0,Item.code (cAt Try.prog 31 [1,1,1,1,1])] (mkJ 0 [(1,.ptr 0 0),(4,.int .i64 n),(5,.int .i64 j)] 0 74)) [] [(0,OBlk.cells 28 [.dat ha,.dat hb,.dat hc,.dat wt,.dat hd,.bool fz])]
section
variable (n j : Int) (ha hb hc wt hd : D) (fz : Bool)
theorem rcka_go : exec Try.prog ctRk 200 (unroll (rckA n ha hb hc wt hd fz j)) =
 Tree.br (decide (j < (↑(D.len hd) : Int)))
 (.need (0 ≤ j ∧ j < (↑(D.len hd) : Int) ∧ D.sz hd = 1)
 (.need (D.HasCell hd (Int.toNat j) 0 (FT.int .i64))
 (.br (decide (D.getInt hd (Int.toNat j) 0 < 0)) (.ret (.int .i64 3))
 (.need (0 ≤ j ∧ j < (↑(D.len hd) : Int) ∧ D.sz hd = 1)
 (.need (D.HasCell hd (Int.toNat j) 0 (FT.int .i64))
 (.br (decide (D.getInt hd (Int.toNat j) 0 ≥ n)) (.ret (.int .i64 3))
 (.leaf
 (Conf.mk
 (SFrm.mk 31 none none
 [Item.inLoop (cAt Try.prog 31 [1,1,1,1,0,1,0,0]),Item.inBlock 0,
 Item.code (cAt Try.prog 31 [1,1,1,1,1])]
 (mkJ 0
 [(1,.ptr 0 0),(4,.int .i64 n),
 (5,.int .i64 (IntKind.wrap .i64 (j + 1)))]
 0 74))
 [] [(0,OBlk.cells 28 [.dat ha,.dat hb,.dat hc,.dat wt,.dat hd,.bool fz])]))))))))
 (.leaf
 (Conf.mk
 (SFrm.mk 31 none none
 [Item.inLoop (cAt Try.prog 31 [1,1,1,1,1,0,1,0,0]),Item.inBlock 2,
 Item.code (cAt Try.prog 31 [1,1,1,1,1,1])]
 (mkJ 0 [(1,.ptr 0 0),(4,.int .i64 n),(6,.int .i64 0)] 0 74))
 [] [(0,OBlk.cells 28 [.dat ha,.dat hb,.dat hc,.dat wt,.dat hd,.bool fz])])) := by kernel_rfl

end
end Go.Proofs.Ytodhhmjilnfecaa
end
section
open Go Go.Proofs Sx
namespace Go.Proofs.Ytodhhmjilnfecaa
set_option maxRecDepth 100000
set_option maxHeartbeats 0
noncomputable def rckB (n : Int) (ha hb hc wt hd : D) (fz : Bool) (j : Int) : Conf := Conf.mk (SFrm.mk 31 none none [Item.inLoop (cAt Try.prog 31 [1,1,1,1,1,0,1,0,0]),Item.inBlock 2,Item.code (cAt Try.prog 31 [1,1,1,1,1,1])] (mkJ 0 [(1,.ptr 0 0),(4,.int .i64 n),(6,.int .i64 j)] 0 74)) [] [(0,OBlk.cells 28 [.dat ha,.dat hb,.dat hc,.dat wt,.dat hd,.bool fz])]
section
variable (n j : Int) (ha hb hc wt hd : D) (fz : Bool)
theorem rckb_go : exec Try.prog ctRk 200 (unroll (rckB n ha hb hc wt hd fz j)) =
 Tree.br (decide (j < n))
 (.need (D.Is Ev hc ∧ D.len hc ≤ 1048576)
 (.br (decide (atEv (D.to Ev hc) (Ev.mk 1 j) ≥ 0))
 (.all fun hs =>
 .need (D.Is Int wt ∧ D.len wt ≤ 1048576)
 (.need (D.Is Int hd ∧ D.len hd ≤ 1048576)
 (.br (IntKind.wrap .i64 ((↑(cntI (D.to Int wt) j) : Int) + (↑(cntI (D.to Int hd) j) : Int)) != 0)
 (.ret (.int .i64 3))
 (.leaf
 (Conf.mk
 (SFrm.mk 31 none none
 [Item.inLoop (cAt Try.prog 31 [1,1,1,1,1,0,1,0,0]),Item.inBlock 2,
 Item.code (cAt Try.prog 31 [1,1,1,1,1,1])]
 (mkJ 0
 [(1,.ptr 0 0),(4,.int .i64 n),
 (6,.int .i64 (IntKind.wrap .i64 (j + 1)))]
 0 74))
 [] [(0,OBlk.cells 28 [.dat ha,.dat hb,.dat hc,.dat wt,.dat hd,.bool fz])])))))
 (.all fun hs =>
 .need (D.Is Int wt ∧ D.len wt ≤ 1048576)
 (.need (D.Is Int hd ∧ D.len hd ≤ 1048576)
 (.br (IntKind.wrap .i64 ((↑(cntI (D.to Int wt) j) : Int) + (↑(cntI (D.to Int hd) j) : Int)) != 1)
 (.ret (.int .i64 3))
 (.leaf
 (Conf.mk
 (SFrm.mk 31 none none
 [Item.inLoop (cAt Try.prog 31 [1,1,1,1,1,0,1,0,0]),Item.inBlock 2,
 Item.code (cAt Try.prog 31 [1,1,1,1,1,1])]
 (mkJ 0
 [(1,.ptr 0 0),(4,.int .i64 n),
 (6,.int .i64 (IntKind.wrap .i64 (j + 1)))]
 0 74))
 [] [(0,OBlk.cells 28 [.dat ha,.dat hb,.dat hc,.dat wt,.dat hd,.bool fz])])))))))
 (.br (decide ((↑(D.len hd) : Int) > 0))
 (.br (!fz) (.ret (.int .i64 12)) (.ret (.int .i64 0)))
 (.ret (.int .i64 0))) := by kernel_rfl

end
end Go.Proofs.Ytodhhmjilnfecaa
end
section
open Go Go.Proofs Sx
namespace Go.Proofs.Ytodhhmjilnfecaa
set_option maxRecDepth 100000
theorem ctRkOk : Ctrs.Ok Try.prog ctRk := by
 intro x hx
 simp only [ctRk,List.mem_cons,List.not_mem_nil,or_false] at hx
 rcases hx with rfl | rfl | rfl | rfl
 ·exact ctrOf_ok lawCkR
 ·exact ctrOf_ok lawSet
 ·exact ctrOf_ok lawAckd
 ·exact ctrOf_ok lawCnt
theorem lawFewG : Law Try.prog 11 (rdGr.one.sp spFewG) := by
 refine law_in _ (by kernel_rfl) fun H w ⟨⟨ha,hb,hc⟩,wt,hd,fz⟩ hok hp=>?_
 obtain ⟨h1,h2,h3,h4,h5⟩ := hp _ (List.mem_singleton.2 rfl)
 simp only at h1 h2 h3 h4 h5
 have wl := D.Is.length (α := Int) wt
 have hl := D.Is.length (α := Int) hd
 apply exec_sound (cs := ctRf) (by intro x hx; rw [List.mem_singleton.1 hx]; exact ctrOf_ok lawFew) 200
 rw [show rdGr.one.canon ⟨⟨ha,hb,hc⟩,wt,hd,fz⟩ = [.agg [.dat ha,.dat hb,.dat hc,.dat wt,.dat hd,.bool fz]] from rfl,rfew_in]
 have e1 : decide ((wt.len : Int) ≤ 50) = decide ((wt.to Int).length ≤ 50) := by rw [wl,decide_eq_decide]; omega
 have e2 : decide ((hd.len : Int) ≤ 50) = decide ((hd.to Int).length ≤ 50) := by rw [hl,decide_eq_decide]; omega
 refine ⟨⟨h1,h2,h3⟩,fun hf=>⟨fun hw=>ret_bool ?_,fun hw=>ret_lb ?_⟩,fun hf=>ret_lb ?_⟩
 ·rw [e1] at hw
  show _ = (fewH (HiD.mk ha hb hc).hist && (decide ((wt.to Int).length ≤ 50) && decide ((hd.to Int).length ≤ 50)))
  rw [hf,hw,e2]; rfl
 ·rw [e1] at hw
  show _ = (fewH (HiD.mk ha hb hc).hist && (decide ((wt.to Int).length ≤ 50) && decide ((hd.to Int).length ≤ 50)))
  rw [hw]; simp
 ·show _ = (fewH (HiD.mk ha hb hc).hist && (decide ((wt.to Int).length ≤ 50) && decide ((hd.to Int).length ≤ 50)))
  rw [hf]; rfl
theorem ctRs2Ok : Ctrs.Ok Try.prog ctRs2 := by
 intro x hx
 simp only [ctRs2,List.mem_cons,List.not_mem_nil,or_false] at hx
 rcases hx with rfl | rfl
 ·exact ctrOf_ok lawSameH
 ·exact ctrOf_ok lawInts
theorem lawSameG : Law Try.prog 17 ((rdGr.two rdGr).sp spSameG) := by
 refine law_in _ (by kernel_rfl) fun H w ⟨⟨⟨ha,hb,hc⟩,wt,hd,fz⟩,⟨⟨ha2,hb2,hc2⟩,wt2,hd2,fz2⟩⟩ hok hp=>?_
 obtain ⟨⟨hR,rw',rh,lw,lh⟩,h1,h2,h3,h4,h5⟩ := hp _ (List.mem_singleton.2 rfl)
 simp only at hR rw' rh lw lh h1 h2 h3 h4 h5
 apply exec_sound ctRs2Ok 200
 rw [show (rdGr.two rdGr).canon (⟨⟨ha,hb,hc⟩,wt,hd,fz⟩,⟨⟨ha2,hb2,hc2⟩,wt2,hd2,fz2⟩) = [.agg [.dat ha,.dat hb,.dat hc,.dat wt,.dat hd,.bool fz],.agg [.dat ha2,.dat hb2,.dat hc2,.dat wt2,.dat hd2,.bool fz2]] from rfl,rsame_in]
 have key : ∀ b : Bool,(b = true ↔ (HiD.mk ha hb hc).hist = (HiD.mk ha2 hb2 hc2).hist ∧ wt.to Int = wt2.to Int ∧ hd.to Int = hd2.to Int ∧ fz = fz2) → b = decide (GrD.gr ⟨⟨ha,hb,hc⟩,wt,hd,fz⟩ = GrD.gr ⟨⟨ha2,hb2,hc2⟩,wt2,hd2,fz2⟩) := fun b hb=>by
  rw [Bool.eq_iff_iff,hb,decide_eq_true_eq,gr_eq]; rfl
 refine ⟨⟨hR,h1,h2,h3⟩,fun e1=>⟨⟨rw',h4,lw⟩,fun e2=>⟨⟨rh,h5,lh⟩,fun e3=>ret_bool (key _ ?_),fun e3=>ret_lb (key _ ?_)⟩,fun e2=>ret_lb (key _ ?_)⟩,fun e1=>ret_lb (key _ ?_)⟩
 ·have e1 := of_decide_eq_true e1
  have e2 := of_decide_eq_true e2
  have e3 := of_decide_eq_true e3
  simp [e1,e2,e3]
 ·have e3 := of_decide_eq_false e3
  simp [e3]
 ·have e3 := of_decide_eq_false e2
  simp [e3]
 ·have e3 := of_decide_eq_false e1
  simp [e3]
theorem lawRkG : Law Try.prog 31 (rdGr.one.sp spCkG) := by
 refine law_in _ (by kernel_rfl) fun H w ⟨⟨ha,hb,hc⟩,wt,hd,fz⟩ hok hp=>?_
 have hx : GrD.Right ⟨⟨ha,hb,hc⟩,wt,hd,fz⟩ := hp _ (List.mem_singleton.2 rfl)
 obtain ⟨hR,rw',rh,lw,lh⟩ := id hx
 obtain ⟨ra,rb,rc,la,lb,lc,rd⟩ := id hR
 simp only at ra rb rc la lb lc rd rw' rh lw lh
 have bl := D.Is.length (α := Wt) hb
 have hl := D.Is.length (α := Int) hd
 have wl := D.Is.length (α := Int) wt
 apply exec_sound ctRkOk 200
 rw [show rdGr.one.canon ⟨⟨ha,hb,hc⟩,wt,hd,fz⟩ = [.agg [.dat ha,.dat hb,.dat hc,.dat wt,.dat hd,.bool fz]] from rfl,rck_in]
 generalize hg : GrD.gr ⟨⟨ha,hb,hc⟩,wt,hd,fz⟩ = g
 have g1 : g.hist = (HiD.mk ha hb hc).hist := by rw [← hg]; rfl
 have g2 : g.waiting = wt.to Int := by rw [← hg]; rfl
 have g3 : g.held = hd.to Int := by rw [← hg]; rfl
 have g4 : g.frozen = fz := by rw [← hg]; rfl
 have g5 : g.hist.writes.length = hb.len := by rw [g1,bl]; rfl
 have g6 : g.hist.events = hc.to Ev := by rw [g1]; rfl
 have hr := openErr_ref g
 rw [hr]
 refine ⟨hR,fun e1=>ret_int ?_,fun e1=>⟨⟨rw',lw⟩,fun e2=>ret_int ?_,fun e2=>?_⟩⟩
 ·have e1 : (checkH g.hist).1 ≠ 0 := by rw [g1]; simpa using e1
  unfold refErrG; rw [if_pos e1,g1]
 ·have e1 : ¬(checkH g.hist).1 ≠ 0 := by rw [g1]; simpa using e1
  have e2 : setH g.waiting g.hist.writes.length = false := by rw [g2,g5]; simpa using e2
  unfold refErrG; rw [if_neg e1,if_pos e2]
 have e1 : ¬(checkH g.hist).1 ≠ 0 := by rw [g1]; simpa using e1
 have e2 : ¬setH g.waiting g.hist.writes.length = false := by rw [g2,g5]; simpa using e2
 show Runs _ _ (rckA hb.len ha hb hc wt hd fz 0) _
 refine runs_loop (fun j : Nat=>rckA hb.len ha hb hc wt hd fz j) (fun j=>j ≤ (hd.to Int).length ∧ ((hd.to Int).take j).all (fun w=>decide (0 ≤ w) && decide (w < (hb.len : Int))) = true) (fun j=>(hd.to Int).length - j) (fun _=>rfl) ?_ 0 ⟨Nat.zero_le _,by simp⟩
 intro j ⟨hj,hpre⟩ ih
 apply exec_sound ctRkOk 200
 rw [rcka_go]
 refine ⟨fun hc'=>?_,fun hc'=>?_⟩
 ·have hcj : j < (hd.to Int).length := by have := of_decide_eq_true hc'; omega
  obtain ⟨c1,c2,c3⟩ := int_at rh hcj
  have bad : ¬((0 : Int) ≤ (hd.to Int)[j] ∧ (hd.to Int)[j] < (hb.len : Int)) → (3 : Int) = refErrG g := fun h=>by
   have e3 : (g.held.all fun w=>decide (0 ≤ w) && decide (w < (g.hist.writes.length : Int))) = false := by
    rw [g3,g5,List.all_eq_false]
    refine ⟨_,List.getElem_mem hcj,?_⟩
    simp only [Bool.and_eq_true,decide_eq_true_eq]; exact h
   unfold refErrG; rw [if_neg e1,if_neg e2,if_pos e3]
  rw [c3]
  refine ⟨c1,c2,fun h=>ret_int ?_,fun h=>⟨c1,c2,fun h'=>ret_int ?_,fun h'=>?_⟩⟩
  ·have := of_decide_eq_true h; exact bad (by omega)
  ·have := of_decide_eq_true h'; exact bad (by omega)
  ·have h := of_decide_eq_false h
   have h' := of_decide_eq_false h'
   have := ih (j + 1) ⟨hcj,by
    rw [List.take_succ_eq_append_getElem hcj,List.all_append,hpre]
    simp only [List.all_cons,List.all_nil,Bool.and_true,Bool.true_and,Bool.and_eq_true,decide_eq_true_eq]; omega⟩ (by omega)
   rw [← wrap_succ hcj (by omega)] at this
   exact this
 ·have hjl : j = (hd.to Int).length := by have := of_decide_eq_false hc'; omega
  subst hjl
  rw [List.take_length] at hpre
  have e3 : ¬(g.held.all fun w=>decide (0 ≤ w) && decide (w < (g.hist.writes.length : Int))) = false := by rw [g3,g5,hpre]; simp
  show Runs _ _ (rckB hb.len ha hb hc wt hd fz 0) _
  refine runs_loop (fun j : Nat=>rckB hb.len ha hb hc wt hd fz j) (fun j=>j ≤ hb.len ∧ ∀ i : Nat,i < j → cntI g.waiting (i : Int) + cntI g.held (i : Int) = if atEv g.hist.events ⟨1,(i : Int)⟩ ≥ 0 then 0 else 1) (fun j=>hb.len - j) (fun _=>rfl) ?_ 0 ⟨Nat.zero_le _,fun i h=>absurd h (Nat.not_lt_zero _)⟩
  intro j ⟨hj,hpj⟩ ih
  apply exec_sound ctRkOk 200
  rw [rckb_go]
  have cw := cntI_le (wt.to Int) j
  have ch := cntI_le (hd.to Int) j
  have wr : IntKind.i64.wrap ((cntI (wt.to Int) j : Int) + (cntI (hd.to Int) j : Int)) = ((cntI (wt.to Int) j : Int) + (cntI (hd.to Int) j : Int)) := wrap64 (by omega) (by omega)
  have nxt : j < hb.len → (cntI g.waiting (j : Int) + cntI g.held (j : Int) = if atEv g.hist.events ⟨1,(j : Int)⟩ ≥ 0 then 0 else 1) → Runs Try.prog ⟨w,H⟩ (rckB hb.len ha hb hc wt hd fz (IntKind.i64.wrap ((j : Int) + 1))) (RetS w H (.int .i64 (refErrG g))) := fun hcj h=>by
   have := ih (j + 1) ⟨hcj,fun i hi=>by
    by_cases e : i = j
    ·subst e; exact h
    ·exact hpj i (by omega)⟩ (by omega)
   rw [← wrap_succ hcj (by omega)] at this
   exact this
  have bad : j < hb.len → ¬(cntI g.waiting (j : Int) + cntI g.held (j : Int) = if atEv g.hist.events ⟨1,(j : Int)⟩ ≥ 0 then 0 else 1) → (3 : Int) = refErrG g := fun hcj h=>by
   have e4 : ((List.range g.hist.writes.length).all fun i=>decide (cntI g.waiting (i : Int) + cntI g.held (i : Int) = if atEv g.hist.events ⟨1,(i : Int)⟩ ≥ 0 then 0 else 1)) = false := by
    rw [List.all_eq_false]
    exact ⟨j,List.mem_range.2 (by omega),by simpa using h⟩
   unfold refErrG; rw [if_neg e1,if_neg e2,if_neg e3,if_pos e4]
  rw [g2,g3,g6] at nxt bad
  refine ⟨fun hcj=>⟨⟨rc,lc⟩,fun ha' hs=>⟨⟨rw',lw⟩,⟨rh,lh⟩,fun hz=>ret_int ?_,fun hz=>?_⟩,fun ha' hs=>⟨⟨rw',lw⟩,⟨rh,lh⟩,fun hz=>ret_int ?_,fun hz=>?_⟩⟩,fun hcj=>?_⟩
  ·have hcj : j < hb.len := by have := of_decide_eq_true hcj; omega
   have ha' := of_decide_eq_true ha'
   rw [wr] at hz
   exact bad hcj (by rw [if_pos ha']; simp only [bne_iff_ne,ne_eq] at hz; omega)
  ·have hcj : j < hb.len := by have := of_decide_eq_true hcj; omega
   have ha' := of_decide_eq_true ha'
   rw [wr] at hz
   exact nxt hcj (by rw [if_pos ha']; simp only [bne_eq_false_iff_eq] at hz; omega)
  ·have hcj : j < hb.len := by have := of_decide_eq_true hcj; omega
   have ha' := of_decide_eq_false ha'
   rw [wr] at hz
   exact bad hcj (by rw [if_neg ha']; simp only [bne_iff_ne,ne_eq] at hz; omega)
  ·have hcj : j < hb.len := by have := of_decide_eq_true hcj; omega
   have ha' := of_decide_eq_false ha'
   rw [wr] at hz
   exact nxt hcj (by rw [if_neg ha']; simp only [bne_eq_false_iff_eq] at hz; omega)
  ·have hjl : j = hb.len := by have := of_decide_eq_false hcj; omega
   subst hjl
   have e4 : ¬((List.range g.hist.writes.length).all fun i=>decide (cntI g.waiting (i : Int) + cntI g.held (i : Int) = if atEv g.hist.events ⟨1,(i : Int)⟩ ≥ 0 then 0 else 1)) = false := by
    rw [Bool.not_eq_false,List.all_eq_true]
    intro i hi
    exact decide_eq_true (hpj i (by have := List.mem_range.1 hi; omega))
   have fin : refErrG g = if (hd.to Int).length > 0 ∧ fz = false then 12 else 0 := by
    unfold refErrG; rw [if_neg e1,if_neg e2,if_neg e3,if_neg e4,g3,g4]
   rw [fin]
   refine ⟨fun h1=>⟨fun h2=>ret_int ?_,fun h2=>ret_int ?_⟩,fun h1=>ret_int ?_⟩
   ·have h1 := of_decide_eq_true h1
    rw [if_pos ⟨by omega,by simpa using h2⟩]
   ·rw [if_neg (by simp at h2; simp [h2])]
   ·have h1 := of_decide_eq_false h1
    rw [if_neg (by omega)]
theorem lawCpd : OLaw Try.prog 43 (spCpd 3) := by
 refine olaw_ints (by kernel_rfl) fun H w ⟨d,e⟩ hok hp=>?_
 obtain ⟨hd,he,ld,le⟩ := hp _ (List.mem_singleton.2 rfl)
 simp only at hd he ld le
 apply execR_sound (noCtr _) 200
 rw [show (rdD.two rdD).canon (d,e) = [.dat d,.dat e] from rfl,cpd_in2]
 refine ⟨⟨hd.fits,by omega,by omega⟩,fun hs=>⟨⟨rfl,he.fits,?_,?_⟩,fun hs1=>?_⟩⟩
 ·simp only [D.len,D.rows] at ld le ⊢; omega
 ·simp only [D.len,D.rows] at ld le ⊢; omega
 ·exact own_ret (h := D.slc (D.hd (hs1 0 0)) 1 []) Try.func43 (by kernel_rfl) rfl (ints_rows (cpd_is hd he).1 rfl (cpd_is hd he).2)
theorem ctrCpd : CtrOk Try.prog 43 (oCtr (spCpd 3)) := oCtr_ok lawCpd
theorem lawWo : OLaw Try.prog 49 (spWo 3) := by
 refine olaw_ints (by kernel_rfl) fun H w ⟨d,n⟩ hok hp=>?_
 obtain ⟨hd,ld⟩ := hp _ (List.mem_singleton.2 rfl)
 simp only at hd ld
 have dl := D.Is.length (α := Int) d
 apply exec_sound (noCtr _) 200
 rw [show (rdD.two rdInt).canon (d,n) = [.dat d,.int .i64 n] from rfl,wo_in]
 refine vecIn_to 9 3 1 none 5 (woL d (.slc none 1 []) n 0) (by kernel_rfl) ?_
 refine runs_loop (fun s : D × Nat=>woL d s.1 n s.2) (fun s=>s.2 ≤ (d.to Int).length ∧ s.1.Is Int ∧ s.1.sz = 1 ∧ s.1.to Int = withoutI ((d.to Int).take s.2) n) (fun s=>(d.to Int).length - s.2) (fun _=>rfl) ?_ (_,0) ⟨Nat.zero_le _,is_nil _ _,rfl,rfl⟩
 rintro ⟨r,j⟩ ⟨hj,r1,r2,r3⟩ ih
 simp only at hj r1 r2 r3 ih ⊢
 have rl : r.len ≤ 1048576 := by
  rw [D.Is.length (α := Int),r3]
  refine Nat.le_trans (List.length_filter_le _ _) ?_
  rw [List.length_take]; omega
 apply execR_sound (noCtr _) 200
 rw [wo_go]
 refine ⟨fun hc=>?_,fun hc=>?_⟩
 ·have hc : j < (d.to Int).length := by have := of_decide_eq_true hc; omega
  obtain ⟨c1,c2,c3⟩ := int_at hd hc
  have wj : IntKind.i64.wrap ((j : Int) + 1) = ((j + 1 : Nat) : Int) := wrap_succ hc (by omega)
  have sn := withoutI_take (n := n) hc
  rw [wj,c3]
  refine ⟨c1,c2,fun hz=>⟨c1,c2,fun hs=>⟨apq_need r2 rl,fun hs1=>?_⟩⟩,fun hz=>?_⟩
  ·rw [if_neg (by simpa using hz)] at sn
   obtain ⟨i1,i2,i3⟩ := apq_is (a := D.hd (hs 0 0)) (b := D.hd (hs1 0 0)) (z := (d.to Int)[j]) r1 r3
   exact ih (_,j + 1) ⟨hc,i1,i2,i3.trans sn.symm⟩ (by simp only; omega)
  ·rw [if_pos (by simpa using hz)] at sn
   exact ih (r,j + 1) ⟨hc,r1,r2,r3.trans sn.symm⟩ (by simp only; omega)
 ·have hc := of_decide_eq_false hc
  have : j = (d.to Int).length := by omega
  subst this
  rw [List.take_length] at r3
  exact own_ret (h := r) Try.func49 (by kernel_rfl) rfl (ints_rows r1 r2 r3)
theorem ctrWo : CtrOk Try.prog 49 (oCtr (spWo 3)) := oCtr_ok lawWo
end Go.Proofs.Ytodhhmjilnfecaa
end
section
open Go Go.Proofs Sx
namespace Go.Proofs.Ytodhhmjilnfecaa
set_option maxRecDepth 100000

theorem lawIsSet : Law Try.prog 69 ((rdCk.two rdD).sp spIsSet) := by
 refine law_in _ (by kernel_rfl) fun H w ⟨⟨ha,hb,hc,i,o⟩,a⟩ hok hp=>?_
 obtain ⟨ra,la,rw'⟩ := hp _ (List.mem_singleton.2 rfl)
 simp only at ra la rw'
 have al := D.Is.length (α := Int) a
 have bl := D.Is.length (α := Wt) hb
 apply exec_sound (noCtr _) 200
 rw [show (rdCk.two rdD).canon (⟨ha,hb,hc,i,o⟩,a) = [.agg [.dat ha,.dat hb,.dat hc,.dat i,.dat o],.dat a] from rfl,isset_in]
 refine runs_loop (fun j : Nat=>issetL ha hb hc i o a j) (fun j=>j ≤ (a.to Int).length ∧ setUp (a.to Int) (hb.to Wt).length j = true) (fun j=>(a.to Int).length - j) (fun _=>rfl) ?_ 0 ⟨Nat.zero_le _,rfl⟩
 intro j ⟨hj,hpre⟩ ih
 apply exec_sound (noCtr _) 300
 rw [isset_go]
 refine ⟨fun hcj=>?_,fun hcj=>?_⟩
 ·have hcj : j < (a.to Int).length := by have := of_decide_eq_true hcj; omega
  obtain ⟨c1,c2,c3⟩ := int_at ra hcj
  have ge : (a.to Int).getD j 0 = (a.to Int)[j] := getD_lt hcj
  have stop : (decide (0 ≤ (a.to Int).getD j 0) && (decide ((a.to Int).getD j 0 < ((hb.to Wt).length : Int)) && (decide (j = 0) || decide ((a.to Int).getD (j - 1) 0 < (a.to Int).getD j 0)))) = false → setH (a.to Int) (hb.to Wt).length = false := setH_false hcj
  have nxt : (decide (0 ≤ (a.to Int).getD j 0) && (decide ((a.to Int).getD j 0 < ((hb.to Wt).length : Int)) && (decide (j = 0) || decide ((a.to Int).getD (j - 1) 0 < (a.to Int).getD j 0)))) = true → Runs Try.prog ⟨w,H⟩ (issetL ha hb hc i o a (IntKind.i64.wrap ((j : Int) + 1))) (RetS w H (.bool (setH (a.to Int) (hb.to Wt).length))) := fun h=>by
   have := ih (j + 1) ⟨hcj,by simp only [setUp,hpre,h,Bool.and_self]⟩ (by omega)
   rw [← wrap_succ hcj (by omega)] at this
   exact this
  rw [c3]
  refine ⟨c1,c2,fun h1=>?_,fun h1=>⟨fun h2=>?_,fun h2=>⟨fun h3=>?_,fun h3=>?_⟩⟩⟩
  ·have h1 := of_decide_eq_true h1
   exact ret_lb (stop (by rw [ge,decide_eq_false (p := 0 ≤ (a.to Int)[j]) (by omega)]; rfl)).symm
  ·have h2 := of_decide_eq_true h2
   exact ret_lb (stop (by rw [ge,decide_eq_false (p := (a.to Int)[j] < ((hb.to Wt).length : Int)) (by omega)]; simp)).symm
  ·have h1 := of_decide_eq_false h1
   have h2 := of_decide_eq_false h2
   have h3 := of_decide_eq_true h3
   have hj1 : j - 1 < (a.to Int).length := by omega
   have ew : IntKind.i64.wrap ((j : Int) - 1) = ((j - 1 : Nat) : Int) := by rw [wrap64 (by omega) (by omega)]; omega
   obtain ⟨d1,d2,d3⟩ := int_at ra hj1
   have ge1 : (a.to Int).getD (j - 1) 0 = (a.to Int)[j - 1] := getD_lt hj1
   rw [ew,d3]
   refine ⟨d1,d2,fun h4=>?_,fun h4=>?_⟩
   ·have h4 := of_decide_eq_true h4
    exact ret_lb (stop (by rw [ge,ge1,decide_eq_false (p := (a.to Int)[j - 1] < (a.to Int)[j]) (by omega),decide_eq_false (p := j = 0) (by omega)]; simp)).symm
   ·have h4 := of_decide_eq_false h4
    exact nxt (by rw [ge,ge1,decide_eq_true (p := (a.to Int)[j - 1] < (a.to Int)[j]) (by omega),decide_eq_true (p := 0 ≤ (a.to Int)[j]) (by omega),decide_eq_true (p := (a.to Int)[j] < ((hb.to Wt).length : Int)) (by omega)]; simp)
  ·have h1 := of_decide_eq_false h1
   have h2 := of_decide_eq_false h2
   have h3 := of_decide_eq_false h3
   exact nxt (by rw [ge,decide_eq_true (p := 0 ≤ (a.to Int)[j]) (by omega),decide_eq_true (p := (a.to Int)[j] < ((hb.to Wt).length : Int)) (by omega),decide_eq_true (p := j = 0) (by omega)]; simp)
 ·have : j = (a.to Int).length := by have := of_decide_eq_false hcj; omega
  subst this
  exact ret_lb hpre.symm

theorem lawBefT : Law Try.prog 96 ((rdTl.three rdInt rdInt).sp spBefT) := by
 refine law_in _ (by kernel_rfl) fun H w ⟨⟨i,o⟩,n,j⟩ hok hp=>?_
 obtain ⟨ri,ro,hn0,hn1,hj0,hj1⟩ := hp _ (List.mem_singleton.2 rfl)
 simp only at ri ro hn0 hn1 hj0 hj1
 obtain ⟨x,rfl⟩ := Int.eq_ofNat_of_zero_le hn0
 obtain ⟨y,rfl⟩ := Int.eq_ofNat_of_zero_le hj0
 have hx : x < (o.to Int).length := by omega
 have hy : y < (i.to Int).length := by omega
 obtain ⟨c1,c2,c3⟩ := int_at ro hx
 obtain ⟨d1,d2,d3⟩ := int_at ri hy
 apply exec_sound (noCtr _) 200
 rw [show (rdTl.three rdInt rdInt).canon (⟨i,o⟩,(x : Int),(y : Int)) = [.agg [.dat i,.dat o],.int .i64 x,.int .i64 y] from rfl,tb_in]
 have e1 : (o.to Int).getD (Int.toNat (x : Int)) 0 = (o.to Int)[x] := getD_lt hx
 have e2 : (i.to Int).getD (Int.toNat (y : Int)) 0 = (i.to Int)[y] := getD_lt hy
 have eb : beforeT ⟨i.to Int,o.to Int⟩ x y = (decide ((o.to Int)[x] ≥ 0) && decide ((o.to Int)[x] < (i.to Int)[y])) := by unfold beforeT; simp only [e1,e2]
 intro hs
 rw [c3,d3]
 refine ⟨fun h=>?_,fun h=>?_⟩
 ·refine ⟨c1,c2,h,h,h,h,c1,h,c2,h,h,h,h,d1,h,d2,h,h,ret_bool (Eq.trans ?_ eb.symm)⟩
  rw [h]; rfl
 ·refine ⟨c1,c2,h,h,h,h,h,h,h,h,h,h,h,h,ret_lb (Eq.trans ?_ eb.symm)⟩
  rw [h]; rfl
end Go.Proofs.Ytodhhmjilnfecaa
end
section
namespace Sx
open Go RowKit
def atEnd (c : Conf) : Bool :=
 match c.rest with
 | []=>match c.top.ri with
  | none=>match c.top.todo with
   | []=>true
   | .code .ret :: _=>true
   | _=>false
  | some _=>false
 | _ :: _=>false
noncomputable def execP (P : Program) (cs : Ctrs) (n : Nat) : Conf → Tree :=
 Nat.rec (motive := fun _=>Conf → Tree) (fun _=>.stuck) (fun _ ih c=>match atEnd c with
  | true=>leafR c
  | false=>stepC P cs (fun _=>false) ih c) n

theorem execP_sound {P : Program} {C : Ctx} {R : Value → World → Prop} {cs : Ctrs} (hcs : cs.Ok P) : ∀ (n : Nat) (c : Conf),(execP P cs n c).holds P C R → Runs P C c R
 | 0,_,h=>h.elim
 | n + 1,c,h=>by
  have e : execP P cs (n + 1) c = match atEnd c with
   | true=>leafR c
   | false=>stepC P cs (fun _=>false) (execP P cs n) c := rfl
  rw [e] at h
  cases hr : atEnd c with
  | true=>rw [hr,leafR_eq] at h; exact h
  | false=>rw [hr] at h; exact step_sound (U := fun _=>false) (ih := execP P cs n) hcs (fun c h=>execP_sound hcs n c h) c h
def EndR (C : Ctx) (Φ : Bool → List SV → Mem → Prop) (v : Value) (w : World) : Prop :=
 ∃ e tmps mem E H,Φ e tmps mem ∧ v = rv e (SV.denL E tmps).toArray ∧ Good C mem E H w ∧ SV.OkL H tmps

section
variable {P : Program} {C : Ctx} {Φ : Bool → List SV → Mem → Prop}

theorem kind_piece {C : Ctx} (hrd : C.x.rd = true) : kindOf C.x = some (marksOf C.x.df) := by simp [kindOf,hrd]

theorem end_here {fn : FuncId} {aw : Option Tmp} {tmps : List SV} {mem : Mem} (hrd : C.x.rd = true) (h : Φ true tmps mem) : Runs P C ⟨⟨fn,none,aw,[],tmps⟩,[],mem⟩ (EndR C Φ) := by
 intro E H w g ok
 show Go1 P (kindOf C.x) fn [] ⟨(SV.denL E tmps).toArray,marksOf C.x.df⟩ w _
 rw [kind_piece hrd]
 exact Go1.round_end ⟨true,tmps,mem,E,H,h,rfl,g,ok.1⟩

theorem end_ret {fn : FuncId} {aw : Option Tmp} {k : List Item} {tmps : List SV} {mem : Mem} (hrd : C.x.rd = true) (h : Φ false tmps mem) : Runs P C ⟨⟨fn,none,aw,.code .ret :: k,tmps⟩,[],mem⟩ (EndR C Φ) := by
 intro E H w g ok
 show Go1 P (kindOf C.x) fn (.code .ret :: k) ⟨(SV.denL E tmps).toArray,marksOf C.x.df⟩ w _
 rw [kind_piece hrd]
 exact Go1.round_ret ⟨false,tmps,mem,E,H,h,rfl,g,ok.1⟩

theorem end_ops {fn : FuncId} {aw : Option Tmp} {ops : Array Oper} {tmps : List SV} {mem : Mem} (hrd : C.x.rd = true) (h : Φ true tmps mem) : Runs P C ⟨⟨fn,some (ops,[]),aw,[],tmps⟩,[],mem⟩ (EndR C Φ) := by
 intro E H w g ok
 show wpOps P ops (Qk P (kindOf C.x) fn [] (EndR C Φ)) [] ⟨(SV.denL E tmps).toArray,marksOf C.x.df⟩ w
 rw [kind_piece hrd]
 exact ⟨rfl,Go1.round_end ⟨true,tmps,mem,E,H,h,rfl,g,ok.1⟩⟩
theorem piece (hrd : C.x.rd = true) {fn : FuncId} {aw : Option Tmp} {todo : List Item} {tmps : List SV} {mem : Mem} (h : Runs P C ⟨⟨fn,none,aw,todo,tmps⟩,[],mem⟩ (EndR C Φ)) {E : Env} {H : HV} {w : World} (g : Good C mem E H w) (ok : SV.OkL H tmps)
  (b : Frame) (K : List Item) (cs : List Frame) (hb : b.fn = fn) :
  ∃ e tmps' mem' E' H' w',Φ e tmps' mem' ∧ Good C mem' E' H' w' ∧ SV.OkL H' tmps' ∧
   RoundTo P (lone (b.atR ⟨(SV.denL E tmps).toArray,marksOf C.x.df⟩ (todo ++ K)) cs w) b K cs ⟨(SV.denL E' tmps').toArray,marksOf C.x.df⟩ w' e := by
 have h1 : Go1 P (kindOf C.x) fn todo ⟨(SV.denL E tmps).toArray,marksOf C.x.df⟩ w (EndR C Φ) := h E H w g ⟨ok,by simp⟩
 rw [kind_piece hrd] at h1
 obtain ⟨e,T,w',⟨e',tmps',mem',E',H',h2,h3,h4,h5⟩,h6⟩ := h1 b K cs hb
 simp only [rv,Value.tuple.injEq,Array.mk.injEq,List.cons.injEq,Value.bool.injEq,and_true] at h3
 obtain ⟨rfl,rfl⟩ := h3
 exact ⟨e,tmps',mem',E',H',w',h2,h4,h5,h6⟩
theorem piece_ops (hrd : C.x.rd = true) {fn : FuncId} {aw : Option Tmp} {ops : Array Oper} (hcalm : calmOps ops = true) {l : List Nat} {tmps : List SV} {mem : Mem}
  (h : Runs P C ⟨⟨fn,some (ops,l),aw,[],tmps⟩,[],mem⟩ (EndR C fun e t m=>e = true ∧ Φ true t m)) {E : Env} {H : HV} {w : World} (g : Good C mem E H w) (ok : SV.OkL H tmps)
  (b : Frame) (more : List Nat) (K : List Item) (cs : List Frame) (hb : b.fn = fn) :
  ∃ tmps' mem' E' H' w',Φ true tmps' mem' ∧ Good C mem' E' H' w' ∧ SV.OkL H' tmps' ∧
   Steps P (lone (b.atR ⟨(SV.denL E tmps).toArray,marksOf C.x.df⟩ (.inRegion ops (l ++ more) :: K)) cs w) (lone (b.atR ⟨(SV.denL E' tmps').toArray,marksOf C.x.df⟩ (.inRegion ops more :: K)) cs w') := by
 have h1 : wpOps P ops (Qk P (kindOf C.x) fn [] (EndR C fun e t m=>e = true ∧ Φ true t m)) l ⟨(SV.denL E tmps).toArray,marksOf C.x.df⟩ w := h E H w g ⟨ok,by simp⟩
 rw [kind_piece hrd] at h1
 obtain ⟨a',w',h2,h3⟩ := ops_part hcalm (T := fun a w=>Go1 P (some (marksOf C.x.df)) fn [] a w (EndR C fun e t m=>e = true ∧ Φ true t m)) l more _ _ h1 b K cs
 obtain ⟨e,T,w2,⟨e',tmps',mem',E',H',⟨h4,h4'⟩,h5,h6,h7⟩,h8⟩ := h2 b (.inRegion ops more :: K) cs hb
 simp only [rv,Value.tuple.injEq,Array.mk.injEq,List.cons.injEq,Value.bool.injEq,and_true] at h5
 obtain ⟨rfl,rfl⟩ := h5
 subst h4
 exact ⟨tmps',mem',E',H',w2,h4',h6,h7,h3.trans h8⟩
end
def SV.plainK : SV → Bool
 | .int ..=>true
 | .bool _=>true
 | .lb _=>true
 | .str _=>true
 | .nils=>true
 | .dat _=>true
 | _=>false
def SV.kept : SV → Bool
 | .vec _=>false
 | .ptr k _=>Nat.ble PIN k
 | .velt ..=>false
 | .view ..=>false
 | .mapp _=>false
 | .agg l=>l.all SV.plainK
 | .tup _=>false
 | .fn _ a c=>a.isEmpty && c.all fun x=>match x with
  | .ptr k _=>Nat.ble PIN k
  | _=>false
 | _=>true

theorem kept_den {E E' : Env} (hj : E'.j = E.j) (hb : ∀ k,PIN ≤ k → E'.b k = E.b k) (x : SV) (h : x.kept = true) : x.den E' = x.den E := by
 cases x <;> simp only [SV.kept] at h <;> try (first | rfl | (cases h; done))
 case ptr k o=>simp only [SV.den,hb k (Nat.le_of_ble_eq_true h)]
 case agg l =>
  have : SV.denL E' l = SV.denL E l := by
   rw [SV.denL_eq,SV.denL_eq]
   apply List.map_congr_left
   intro y hy
   have := List.all_eq_true.1 h y hy
   cases y <;> first | rfl | (cases this; done)
  simp only [SV.den,this]
 case fn f a c =>
  simp only [Bool.and_eq_true,List.isEmpty_iff,List.all_eq_true] at h
  obtain ⟨rfl,h⟩ := h
  have : SV.denL E' c = SV.denL E c := by
   rw [SV.denL_eq,SV.denL_eq]
   apply List.map_congr_left
   intro y hy
   have := h y hy
   cases y <;> simp only [SV.den] <;> try (cases this; done)
   rw [hb _ (Nat.le_of_ble_eq_true this)]
  simp only [SV.den,this,SV.denL]
 case junk i=>simp only [SV.den,hj]
theorem kept_denL {E E' : Env} (hj : E'.j = E.j) (hb : ∀ k,PIN ≤ k → E'.b k = E.b k) {l : List SV} (h : l.all SV.kept = true) : SV.denL E' l = SV.denL E l := by
 rw [SV.denL_eq,SV.denL_eq]
 exact List.map_congr_left fun x hx=>kept_den hj hb x (List.all_eq_true.1 h x hx)
theorem Good.ctx {C C' : Ctx} {m : Mem} {E : Env} {H : HV} {w : World} (g : Good C m E H w) (h0 : C'.w0 = C.w0) (hle : HLe C'.H0 H) (hf : ∀ b o v,H b o = some v → C'.H0 b o = some v ∨ C.w0.heap.size ≤ b) (hx : FixOk C'.x C.w0.heap.size E w) : Good C' m E H w := by
 obtain ⟨w0,H0⟩ := C'
 simp only at h0
 subst h0
 refine ⟨g.below,hle,hf,g.cell,fun k o hk=>?_,g.keys,g.apart,hx⟩
 have := g.own k o hk
 cases o <;> exact this
theorem Good.still {C : Ctx} {m : Mem} {E : Env} {H : HV} {w w' : World} (g : Good C m E H w) (hos : w'.os = w.os) (ht : w'.tape = w.tape) (hu : w'.output = w.output) (hs : w.heap.size ≤ w'.heap.size)
  (hb : ∀ j o,w.heap[j]? = some o → w'.heap[j]? = some o ∨ (stillO o = true ∧ C.w0.heap.size ≤ j ∧ C.x.fx j = none)) : Good C m E H w' := by
 have hq : ∀ j o,w.heap[j]? = some o → stillO o = false → w'.heap[j]? = w.heap[j]? := fun j o hj ho=>by
  rcases hb j o hj with h | ⟨h,_⟩
  ·rw [h,hj]
  ·rw [ho] at h; cases h
 have hc : ∀ b o v,H b o = some v → w'.heap[b]? = w.heap[b]? := fun b o v h=>by
  have h1 := g.cell b o v h
  cases hj : w.heap[b]? with
  | none=>simp [World.cell?,hj] at h1
  | some q =>
   rw [← hj]
   refine hq b q hj ?_
   simp only [World.cell?,hj,Option.isSome_none,Bool.false_eq_true,if_false] at h1
   cases q <;> first | rfl | (simp at h1)
 refine ⟨⟨hos.trans g.below.os,ht.trans g.below.tape,hu.trans g.below.output,Nat.le_trans g.below.size hs,fun j hj=>?_⟩,g.ext,g.fresh,fun b o v h=>?_,fun k o h=>?_,g.keys,g.apart,?_⟩
 ·rw [← g.below.block j hj]
  have hlt : j < w.heap.size := Nat.lt_of_lt_of_le hj g.below.size
  have hget : w.heap[j]? = some w.heap[j] := by simp [hlt]
  rcases hb j _ hget with h | ⟨_,h,_⟩
  ·rw [h,hget]
  ·omega
 ·rw [cell_of_heap (w := w) (hc b o v h)]; exact g.cell b o v h
 ·refine (g.own k o h).keep fun hl=>?_
  have hlt := (g.own k o h).lt hl
  have hget : w.heap[E.b k]? = some w.heap[E.b k] := by simp [hlt]
  exact hq _ _ hget ((g.own k o h).moves hl hget)
 ·refine ⟨fun b o h=>⟨?_,(g.fix.fx b o h).2⟩,g.fix.mark,g.fix.nodup,g.fix.pin⟩
  rcases hb b o (g.fix.fx b o h).1 with h1 | ⟨_,_,h1⟩
  ·exact h1
  ·rw [h1] at h; cases h
theorem Good.junk {C : Ctx} {m : Mem} {E : Env} {H : HV} {w : World} (g : Good C m E H w) (j : Nat → Value) (hm : m.all (fun x=>!x.2.jk 0) = true) : Good C m ⟨E.b,E.v,j⟩ H w :=
 g.same' (n := 0) ⟨rfl,rfl,fun i hi=>absurd hi (Nat.not_lt_zero _)⟩ fun x hx=>by simpa using List.all_eq_true.1 hm x hx
end Sx
end
section
namespace Sx
open Go RowKit
structure IterCode (P : Program) (it : FuncId) where
 fn : Func
 hfn : P.funcs[it]? = some fn
 name : (fn.name == "runtime.NumGoroutine") = false
 ntmps : fn.ntmps = 23
 results : fn.results = #[]
 i0 : Nat
 i1 : Nat
 i2 : Nat
 i3 : Nat
 i4 : Nat
 ops0 : Array Oper
 ops1 : Array Oper
 ops2 : Array Oper
 ops3 : Array Oper
 ops4 : Array Oper
 body : fn.body = some (.seq (.region i0 ops0 false) (.block 0 (.loop (.seq (.region i1 ops1 false) (.seq (.cond (.tmp 9) .skip (.exit 0))
  (.seq (.block 1 (.seq (.region i2 ops2 false) (.seq (.region i3 ops3 false) (.cond (.tmp 21) .ret .skip)))) (.region i4 ops4 false)))))))
 calm3 : calmOps ops3 = true
 size3 : ops3.size = 10
 o8 : Oper
 at8 : ops3[8]? = some o8
 tys : Array TypeId
 op8 : o8.op = .call { callee := .value (.tmp 12),args := #[.tmp 13,.tmp 19],argTypes := tys }
 dst8 : o8.dst = some 20
 guard8 : o8.guard = none

def IterCode.loopC {P : Program} {it : FuncId} (I : IterCode P it) : Code := .seq (.region I.i1 I.ops1 false) (.seq (.cond (.tmp 9) .skip (.exit 0))
  (.seq (.block 1 (.seq (.region I.i2 I.ops2 false) (.seq (.region I.i3 I.ops3 false) (.cond (.tmp 21) .ret .skip)))) (.region I.i4 I.ops4 false)))
def liveIt : List Nat := [0,1,2,6,7,8]
def MemTo (m m' : Mem) : Prop := ∀ (C : Ctx) (E : Env) (H : HV) (w : World),Good C m E H w → ∃ E',E'.j = E.j ∧ (∀ k,PIN ≤ k → E'.b k = E.b k) ∧ Good C m' E' H w

theorem MemTo.sub {m m' : Mem} (h : m'.Sublist m) : MemTo m m' := fun _ E _ _ g=>⟨E,rfl,fun _ _=>rfl,g.sub h⟩
theorem MemTo.refl (m : Mem) : MemTo m m := fun _ E _ _ g=>⟨E,rfl,fun _ _=>rfl,g⟩
theorem MemTo.ren {m : Mem} (ρ : Nat → Nat) (hpin : ∀ k,PIN ≤ k → ρ k = k) (hlow : ∀ k,k ∈ m.named → k < PIN → ρ k < PIN)
  (hinj : ∀ k j,k ∈ m.named → j ∈ m.named → ρ k = ρ j → k = j) : MemTo m (m.map fun e=>(ρ e.1,e.2.ren ρ)) := by
 intro C E H w g
 let inv : Nat → Nat := fun i=>if PIN ≤ i then i else ((m.named.find? fun k=>ρ k == i).getD i)
 let E' : Env := ⟨fun i=>E.b (inv i),fun i=>E.v (inv i),E.j⟩
 have hinv : ∀ k,k ∈ m.named → inv (ρ k) = k := fun k hk=>by
  rcases Nat.lt_or_ge k PIN with h | h
  ·have hl := hlow k hk h
   simp only [inv,if_neg (Nat.not_le.2 hl)]
   cases hf : m.named.find? fun j=>ρ j == ρ k with
   | none =>
    have := List.find?_eq_none.1 hf k hk
    simp at this
   | some j =>
    have h1 := List.find?_some hf
    have h2 := List.mem_of_find?_eq_some hf
    simp only [beq_iff_eq] at h1
    simp only [Option.getD_some]
    exact hinj j k h2 hk h1
  ·rw [hpin k h]; simp only [inv,if_pos h]
 have ren : ∀ k,k ∈ m.named → Ren ρ E E' k := fun k hk=>by
  simp only [Ren,E',hinv k hk,and_self]
 refine ⟨E',rfl,fun k hk=>by simp only [E',inv,if_pos hk],?_⟩
 refine ⟨g.below,g.ext,g.fresh,g.cell,fun k o hko=>?_,?_,fun x y hx hy hne hlx hly=>?_,g.fix.keep (fun k hk=>by simp only [E',inv,if_pos hk]) fun _ _ h _=>h⟩
 ·obtain ⟨e,he,h1⟩ := List.mem_map.1 hko
  simp only [Prod.mk.injEq] at h1
  obtain ⟨rfl,rfl⟩ := h1
  exact (g.own e.1 e.2 he).ren (E' := E') (show E'.j = E.j from rfl) (ren _ (named_key (o := e.2) he)) (fun j hj=>ren j (named_in he hj)) (fun es _ hk=>keysOk_ren hk)
 ·rw [List.pairwise_map]
  refine g.keys.imp_of_mem ?_
  intro a b ha hb hne e
  exact hne (hinj _ _ (named_key (o := a.2) ha) (named_key (o := b.2) hb) e)
 ·obtain ⟨a,ha,h1⟩ := List.mem_map.1 hx
  obtain ⟨b,hb,h2⟩ := List.mem_map.1 hy
  subst h1; subst h2
  simp only at hne hlx hly ⊢
  rw [(ren a.1 (named_key (o := a.2) ha)).1,(ren b.1 (named_key (o := b.2) hb)).1]
  exact g.apart a b ha hb (fun e=>hne (by rw [e])) ((OBlk.lies_ren _ _).1 hlx) ((OBlk.lies_ren _ _).1 hly)
def Ctx.marked (C : Ctx) (D : Nat) : Ctx := @Ctx.mk C.w0 C.H0 ⟨fun b=>if b = D then some (.deferred (some [])) else C.x.fx b,D :: C.x.df,C.x.rd,C.x.pn⟩
def Ctx.loopX (C : Ctx) (Hb : HV) (pb : Nat → Nat) (D l : Nat) (r : Loop) : Ctx :=
 @Ctx.mk C.w0 Hb ⟨fun b=>if b = D then some (.deferred (some [])) else if b = l then some (.loop r) else C.x.fx b,[],true,some pb⟩

def yieldV (l : Nat) : Value := .func (.yield l) #[] #[]

section
variable {P : Program} {it : FuncId}
structure IterWalk (I : IterCode P it) {σ : Type} (mm : σ → Mem) (n : Nat) (z : Nat → Int) (wv : Nat → SV) (Inv : Nat → σ → Prop) (caps : List SV) where
 itL : Nat → Nat → List SV
 TA : Nat → List SV
 T1 : Nat → Nat → List SV
 T2 : Nat → Nat → List SV
 T3 : Nat → Nat → List SV
 TC : Bool → Nat → Nat → List SV
 TD : Nat → Nat → List SV
 kept : ∀ l j,(itL l j).all SV.kept = true
 okL : ∀ (C : Ctx) (E : Env) (H : HV) (w : World) (s : σ),Good C (mm s) E H w → ∀ l j,SV.OkL H (itL l j)
 okw : ∀ (C : Ctx) (E : Env) (H : HV) (w : World) (s : σ),Good C (mm s) E H w → ∀ j,j < n → (wv j).Ok H
 A : ∀ (C : Ctx) (s : σ) (l : Nat),C.x.rd = true → Inv 0 s → Runs P C ⟨⟨it,none,none,[.code (.region I.i0 I.ops0 false)],SV.raw (yieldV l) :: caps ++ List.replicate 20 .undef⟩,[],mm s⟩ (EndR C fun e T m=>e = true ∧ T = TA l ∧ m = mm s)
 mA : ∀ l,maskT 0 liveIt 0 (TA l) = itL l 0 ∧ keptOk 0 liveIt 0 (TA l) = true
 B1 : ∀ (C : Ctx) (s : σ) (l j : Nat),C.x.rd = true → j ≤ n → Inv j s → Runs P C ⟨⟨it,none,none,[.code (.region I.i1 I.ops1 false)],itL l j⟩,[],mm s⟩ (EndR C fun e T m=>e = true ∧ T = T1 l j ∧ m = mm s)
 c1 : ∀ l j,(T1 l j)[9]? = some (.bool (decide ((j : Int) < n)))
 B2 : ∀ (C : Ctx) (s : σ) (l j : Nat),C.x.rd = true → j < n → Inv j s → Runs P C ⟨⟨it,none,none,[.code (.region I.i2 I.ops2 false)],T1 l j⟩,[],mm s⟩ (EndR C fun e T m=>e = true ∧ T = T2 l j ∧ m = mm s)
 B3 : ∀ (C : Ctx) (s : σ) (l j : Nat),C.x.rd = true → j < n → Inv j s → Runs P C ⟨⟨it,some (I.ops3,[0,1,2,3,4,5,6,7]),none,[],T2 l j⟩,[],mm s⟩ (EndR C fun e T m=>e = true ∧ T = T3 l j ∧ m = mm s)
 c3 : ∀ l j,(T3 l j)[12]? = some (.raw (yieldV l)) ∧ (T3 l j)[13]? = some (.int .i64 (z j)) ∧ (T3 l j)[19]? = some (wv j)
 m3 : ∀ l j,maskT 0 liveIt 0 (T3 l j) = itL l j ∧ keptOk 0 liveIt 0 (T3 l j) = true
 Cc : ∀ (C : Ctx) (s : σ) (m : Mem) (e : Bool) (l j : Nat),C.x.rd = true → Runs P C ⟨⟨it,some (I.ops3,[9]),none,[],(itL l j).set 20 (.lb e)⟩,[],m⟩ (EndR C fun e' T m'=>e' = true ∧ T = TC e l j ∧ m' = m)
 cC : ∀ e l j,(TC e l j)[21]? = some (.lb (!e))
 Dd : ∀ (C : Ctx) (s : σ) (l j : Nat),C.x.rd = true → j < n → Runs P C ⟨⟨it,none,none,[.code (.region I.i4 I.ops4 false)],TC true l j⟩,[],mm s⟩ (EndR C fun e T m=>e = true ∧ T = TD l j ∧ m = mm s)
 mD : ∀ l j,j < n → maskT 0 liveIt 0 (TD l j) = itL l (j + 1) ∧ keptOk 0 liveIt 0 (TD l j) = true
 indep : ∀ (j : Nat) (E E' : Env),(wv j).den E' = (wv j).den E
end


theorem act_get {tmps : List SV} {E : Env} {i : Nat} {x : SV} (h : tmps[i]? = some x) (ds : List Deferred) : (⟨(SV.denL E tmps).toArray,ds⟩ : Act).eval (.tmp i) = x.den E := by
 simp [Act.eval,SV.denL_eq,h,Array.getD]
 split
 ·have := (List.getElem?_eq_some_iff.1 h).2
  simp [this]
 ·rename_i hlt
  have := (List.getElem?_eq_some_iff.1 h).1
  exact absurd this hlt

theorem maskIt {E : Env} {T L : List SV} (h : maskT 0 liveIt 0 T = L ∧ keptOk 0 liveIt 0 T = true) : ∃ J : Nat → Value,SV.denL ⟨E.b,E.v,J⟩ L = SV.denL E T := by
 refine ⟨fun i=>((SV.denL E T)[i]?).getD Go.undef,?_⟩
 rw [← h.1]
 refine maskT_den (n := 0) (E := E) (E' := ⟨E.b,E.v,fun i=>((SV.denL E T)[i]?).getD Go.undef⟩) ⟨rfl,rfl,fun i hi=>absurd hi (Nat.not_lt_zero _)⟩ liveIt T 0 h.2 fun i v hv=>?_
 simp [SV.denL_eq,hv]

section
variable {P : Program} {it : FuncId}
theorem iter_out (I : IterCode P it) {b bF : Frame} {a aM : Act} {l : Nat} {k : List Item} {cs : List Frame} {w : World} {r : Loop} (hb : b.fn = it) (hk : b.kind = .normal) (hro : b.roundOf = none) (hd : a.defers = [])
  (hl : w.heap[l]? = some (.loop r)) (hr : r.state ≠ .busy) {todo : List Item} (ht : todo = [] ∨ ∃ q,todo = .code .ret :: q) :
  Steps P (lone (b.atR a todo) (bF.atR aM (.inRangeFunc l :: k) :: cs) w) (lone (bF.atR aM ((r.pending.map Item.code).toList ++ k)) cs (w.putObj l (.loop { r with state := .exhausted }))) := by
 have hres : (results I.fn a.tmps).run P w = .ok (.tuple #[]) w := by simp [Go.results,I.results]
 have leave : ∀ todo,Steps P (lone { b.atR a todo with mode := .returning } (bF.atR aM (.inRangeFunc l :: k) :: cs) w) (lone (bF.atR aM ((r.pending.map Item.code).toList ++ k)) cs (w.putObj l (.loop { r with state := .exhausted }))) := fun todo=>by
  have hleave : Frame.leaving P { b.atR a todo with mode := .returning } w (.returned (.tuple #[])) := ⟨rfl,hd,hk,I.fn,by rw [← I.hfn]; exact congrArg _ hb,hres⟩
  refine .head (step_leave_returned hleave) ?_
  rw [finish_atR_inRangeFunc]
  exact .one (stepR_endRangeFunc (run_endLoop hl hr))
 rcases ht with rfl | ⟨q,rfl⟩
 ·exact .head (stepR_end hro) (leave [])
 ·exact .head (stepR_ret hro) (leave _)

theorem run_yieldOp {I : IterCode P it} {a : Act} {l : Nat} {r : Loop} {x y : Value} {w : World} (h12 : a.eval (.tmp 12) = yieldV l) (h13 : a.eval (.tmp 13) = x) (h19 : a.eval (.tmp 19) = y)
  (hl : w.heap[l]? = some (.loop r)) (hs : r.params.size = 2) :
  (execOp a.eval I.o8).run P w = .ok (.round l r.fn ((r.params.zip #[x,y]).foldl (fun tmps (t,a)=>tmps.setIfInBounds t a) r.tmps) r.assign r.body) w := by
 have hy := run_yield (P := P) (args := #[x,y]) hl (by rw [hs]; rfl)
 unfold execOp
 simp only [I.op8,resolve,h12,yieldV,Deferred.ofValue,Sem.run_bind,Sem.run_pure,Result.andThen_ok,invoke]
 simp only [List.map_toArray,List.map_cons,List.map_nil,h13,h19]
 simpa using hy
def roundF (fn : FuncId) (l : Nat) : Frame := { (default : Frame) with fn := fn,kind := .normal,roundOf := some l }
theorem steps_round {I : IterCode P it} {b : Frame} {a : Act} {k : List Item} {cs : List Frame} {w w1 w2 : World} {l : Nat} {r : Loop} {T T1 T2 : Array Value} {e : Bool} (hb : b.roundOf = none)
  (hy : (execOp a.eval I.o8).run P w = .ok (.round l r.fn T r.assign r.body) w)
  (h1 : Steps P (lone ((roundF r.fn l).atR ⟨T,[]⟩ [.code r.assign,.beginRound,.code r.body]) (b.atR a (.inRegion I.ops3 [8,9] :: k) :: cs) w) (lone ((roundF r.fn l).atR ⟨T1,[]⟩ [.beginRound,.code r.body]) (b.atR a (.inRegion I.ops3 [8,9] :: k) :: cs) w1))
  (hl1 : w1.heap[l]? = some (.loop { r with state := .ready,pending := none }))
  (h2 : RoundTo P (lone ((roundF r.fn l).atR ⟨T1,[]⟩ [.code r.body]) (b.atR a (.inRegion I.ops3 [8,9] :: k) :: cs) (w1.putObj l (.loop { r with state := .busy,pending := none }))) (roundF r.fn l) [] (b.atR a (.inRegion I.ops3 [8,9] :: k) :: cs) ⟨T2,[]⟩ w2 e)
  (hl2 : w2.heap[l]? = some (.loop { r with state := .busy,pending := none })) :
  Steps P (lone (b.atR a (.inRegion I.ops3 [8,9] :: k)) cs w) (lone (b.atR (a.put (some 20) (.bool e)) (.inRegion I.ops3 [9] :: k)) cs
   (w2.putObj l (.loop { r with state := if e then .ready else .done,pending := if e then none else some .ret }))) := by
 have hw : Region.wanted I.o8 (yielded I.ops3 a.tmps) = true := by simp [Region.wanted,I.guard8]
 have hg := stepGR_op (P := P) (b := b) (k := k) (cs := cs) (w := w) (rest := [9]) I.at8 hw
 rw [semAt_calm I.calm3 I.at8] at hg
 have hfin : ∀ v,(b.atR a (.inRegion I.ops3 [8,9] :: k)).finish v = b.atR (a.put (some 20) v) (.inRegion I.ops3 [9] :: k) := by
  intro v; rw [Frame.finish_atR,I.at8]; simp [I.dst8]
 have henter : Go.step P (lone (b.atR a (.inRegion I.ops3 [8,9] :: k)) cs w) = .next (lone ((roundF r.fn l).atR ⟨T,[]⟩ [.code r.assign,.beginRound,.code r.body]) (b.atR a (.inRegion I.ops3 [8,9] :: k) :: cs) w) :=
  step_lone_go (by rw [hg]; simp [stepG.apply,hy,Frame.atR,Frame.round,roundF])
 refine .head henter (h1.trans ?_)
 have hbeg := run_beginRound (P := P) hl1 rfl
 refine .head (stepR_beginRound (b := roundF r.fn l) rfl hbeg) ?_
 cases e with
 | true =>
  refine Steps.trans h2 (.one ?_)
  have hend := run_endRound (P := P) none hl2
  rw [← hfin]
  exact stepR_round_end (b := roundF r.fn l) rfl rfl hend
 | false =>
  obtain ⟨q,h3⟩ := h2
  refine Steps.trans h3 (.one ?_)
  have hend := run_endRound (P := P) (some .ret) hl2
  rw [← hfin]
  exact stepR_round_ret (b := roundF r.fn l) rfl rfl hend
end

section
variable {P : Program} {it : FuncId}

theorem kind_none {X : CtxX} (h : X.rd = false) : kindOf X = none := by unfold kindOf; rw [h]

theorem loopX_at {C : Ctx} {Hb : HV} {pb : Nat → Nat} {D l : Nat} {r : Loop} (hne : l ≠ D) : (C.loopX Hb pb D l r).x.fx l = some (.loop r) := by
 show (if l = D then some (Obj.deferred (some [])) else if l = l then some (.loop r) else C.x.fx l) = _
 rw [if_neg hne,if_pos rfl]

theorem loopX_fix {C : Ctx} {Hb : HV} {E : Env} {w : World} {D l : Nat} {r : Loop} (hf : FixOk C.x C.w0.heap.size E w) {E' : Env} {w' : World} (hk : ∀ (b : Nat) (o : Obj),C.x.fx b = some o → w'.heap[b]? = some o)
  (hD : w'.heap[D]? = some (.deferred (some []))) (hl : w'.heap[l]? = some (.loop r)) (hp : ∀ k,PIN ≤ k → E'.b k = E.b k) : FixOk (C.loopX Hb E.b D l r).x C.w0.heap.size E' w' := by
 refine ⟨fun b o h=>?_,(fun _ h=>by cases h),List.nodup_nil,fun f h k hk=>?_⟩
 ·have h : (if b = D then some (Obj.deferred (some [])) else if b = l then some (.loop r) else C.x.fx b) = some o := h
  split at h
  ·cases h; rename_i e; rw [e]; exact ⟨hD,rfl⟩
  ·split at h
   ·cases h; rename_i e; rw [e]; exact ⟨hl,rfl⟩
   ·exact ⟨hk b o h,(hf.fx b o h).2⟩
 ·cases h; exact hp k hk
theorem Good.record {C : Ctx} {Hb : HV} {pb : Nat → Nat} {D l : Nat} {r r' : Loop} {m : Mem} {E : Env} {H : HV} {w : World} (g : Good (C.loopX Hb pb D l r) m E H w) (hlow : C.w0.heap.size ≤ l) (hne : l ≠ D) (hfx : C.x.fx l = none) :
  Good (C.loopX Hb pb D l r') m E H (w.putObj l (.loop r')) := by
 have hl := (g.fix.fx l (.loop r) (loopX_at hne)).1
 have hlt := (Array.getElem?_eq_some_iff.1 hl).1
 have g1 : Good (@Ctx.mk C.w0 Hb ⟨fun b=>if b = D then some (.deferred (some [])) else C.x.fx b,[],true,some pb⟩) m E H w := by
  refine g.ctx rfl g.ext (fun b o v h=>g.fresh b o v h) ⟨fun b o h=>?_,(fun _ h=>by cases h),List.nodup_nil,g.fix.pin⟩
  refine g.fix.fx b o ?_
  show (if b = D then some (Obj.deferred (some [])) else if b = l then some (.loop r) else C.x.fx b) = some o
  have h : (if b = D then some (Obj.deferred (some [])) else C.x.fx b) = some o := h
  split at h
  ·rename_i e; rw [if_pos e]; exact h
  ·rename_i e
   rw [if_neg e]
   by_cases e2 : b = l
   ·rw [e2,hfx] at h; cases h
   ·rw [if_neg e2]; exact h
 have g2 := g1.still (w' := w.putObj l (.loop r')) rfl rfl rfl (by simp) fun j o hj=>by
  by_cases e : j = l
  ·subst e; rw [hl] at hj; cases hj
   exact .inr ⟨rfl,hlow,by show (if j = D then some (Obj.deferred (some [])) else C.x.fx j) = none; rw [if_neg hne,hfx]⟩
  ·exact .inl (by rw [heap_putObj _ _ _ _ e]; exact hj)
 refine g2.ctx rfl g2.ext (fun b o v h=>g2.fresh b o v h) ⟨fun b o h=>?_,(fun _ h=>by cases h),List.nodup_nil,g2.fix.pin⟩
 have h : (if b = D then some (Obj.deferred (some [])) else if b = l then some (.loop r') else C.x.fx b) = some o := h
 split at h
 ·rename_i e
  exact g2.fix.fx b o (by show (if b = D then some (Obj.deferred (some [])) else C.x.fx b) = some o; rw [if_pos e]; exact h)
 ·rename_i e
  split at h
  ·rename_i e2; cases h; rw [e2]
   exact ⟨World.putObj_heap_same hlt,rfl⟩
  ·exact g2.fix.fx b o (by show (if b = D then some (Obj.deferred (some [])) else C.x.fx b) = some o; rw [if_neg e]; exact h)
theorem Good.behind {C : Ctx} {Hb : HV} {pb : Nat → Nat} {D l : Nat} {r : Loop} {m : Mem} {E : Env} {H : HV} {w : World} (g : Good (C.loopX Hb pb D l r) m E H w) (hle : HLe C.H0 Hb) (hfr : ∀ b o v,Hb b o = some v → C.H0 b o = some v ∨ C.w0.heap.size ≤ b)
  (hpn : C.x.pn = none) (hlowD : C.w0.heap.size ≤ D) (hlow : C.w0.heap.size ≤ l) (hne : l ≠ D) (hfl : C.x.fx l = none) (hnd : D ∉ C.x.df) (hm : ∀ b,b ∈ C.x.df → C.w0.heap.size ≤ b ∧ b ≠ D ∧ C.x.fx b = some (.deferred (some []))) (hn : C.x.df.Nodup) (r' : Loop) :
  Good (C.marked D) m E H (w.putObj l (.loop r')) := by
 have g1 := g.record (r' := r') hlow hne hfl
 refine g1.ctx rfl (hle.trans g1.ext) (fun b o v h=>?_) ⟨fun b o h=>?_,fun b h=>?_,?_,fun f h=>?_⟩
 ·rcases g1.fresh b o v h with h1 | h1
  ·exact hfr b o v h1
  ·exact .inr h1
 ·refine g1.fix.fx b o ?_
  show (if b = D then some (Obj.deferred (some [])) else if b = l then some (.loop r') else C.x.fx b) = some o
  have h : (if b = D then some (Obj.deferred (some [])) else C.x.fx b) = some o := h
  split at h
  ·rename_i e; rw [if_pos e]; exact h
  ·rename_i e
   rw [if_neg e]
   by_cases e2 : b = l
   ·rw [e2,hfl] at h; cases h
   ·rw [if_neg e2]; exact h
 ·have h : b ∈ D :: C.x.df := h
  rcases List.mem_cons.1 h with rfl | h
  ·exact ⟨hlowD,by show (if b = b then some (Obj.deferred (some [])) else C.x.fx b) = _; rw [if_pos rfl]⟩
  ·obtain ⟨h1,h2,h3⟩ := hm b h
   exact ⟨h1,by show (if b = D then some (Obj.deferred (some [])) else C.x.fx b) = _; rw [if_neg h2]; exact h3⟩
 ·exact List.nodup_cons.2 ⟨hnd,hn⟩
 ·have h : C.x.pn = some f := h
  rw [hpn] at h; cases h

theorem runs_range {C : Ctx} {R : Value → World → Prop} (I : IterCode P it) {fnF : FuncId} {aw : Option Tmp} {t p0 p1 : Tmp} {assign body : Code} {k : List Item} {tmps caps : List SV}
  {σ : Type} {mm : σ → Mem} {n : Nat} {z : Nat → Int} {wv : Nat → SV} {Inv : Nat → σ → Prop} {Stop : Mem → Prop} (W : IterWalk I mm n z wv Inv caps) (s0 : σ) (h0 : Inv 0 s0)
  (hrd : C.x.rd = false) (hpn : C.x.pn = none) (hkept : tmps.all SV.kept = true) (hcap : caps.all SV.kept = true) (hlen : caps.length = 2) (ht : tmps[t]? = some (.fn it [] caps)) (hj : ∀ s,(mm s).all (fun x=>!x.2.jk 0) = true)
  (rT : Nat → List SV) (am : Nat → σ → Mem) (assigned : ∀ (C1 : Ctx) (s : σ) (j : Nat),C1.x.rd = true → j < n → Inv j s → Runs P C1 ⟨⟨fnF,none,none,[.code assign],(tmps.set p0 (.int .i64 (z j))).set p1 (wv j)⟩,[],mm s⟩ (EndR C1 fun e T m=>e = true ∧ T = rT j ∧ m = am j s))
  (rounds : ∀ (C1 : Ctx) (s : σ) (j : Nat),C1.x.rd = true → j < n → Inv j s → Runs P C1 ⟨⟨fnF,none,none,[.code body],rT j⟩,[],am j s⟩ (EndR C1 fun e T m=>(e = true → ∃ s',MemTo m (mm s') ∧ Inv (j + 1) s') ∧ (e = false → ∃ s',MemTo m (mm s') ∧ Stop (mm s'))))
  (done : ∀ (D : Nat) (s : σ),Inv n s → Runs P (C.marked D) ⟨⟨fnF,none,aw,k,tmps⟩,[],mm s⟩ R)
  (stop : ∀ (D : Nat) (s : σ),Stop (mm s) → Runs P (C.marked D) ⟨⟨fnF,none,aw,.code .ret :: k,tmps⟩,[],mm s⟩ R) :
  Runs P C ⟨⟨fnF,none,aw,.code (.rangeFunc (.tmp t) #[p0,p1] assign body) :: k,tmps⟩,[],mm s0⟩ R := by
 intro E H w g ok
 show Go1 P (kindOf C.x) fnF (.code (.rangeFunc (.tmp t) #[p0,p1] assign body) :: k) ⟨(SV.denL E tmps).toArray,marksOf C.x.df⟩ w R
 rw [kind_none hrd]
 intro b cs hb hk hro
 have okT : SV.OkL H tmps := ok.1
 let TF : Array Value := (SV.denL E tmps).toArray
 let D := w.heap.size
 let l := w.heap.size + 1
 let rec' : LoopState → Option Code → Loop := fun st pe=>{ state := st,pending := pe,fn := fnF,tmps := TF,params := #[p0,p1],assign,body,defers := D }
 let W1 := (w.alloc (.deferred (some []))).alloc (.loop (rec' .ready none))
 have hlow : C.w0.heap.size ≤ w.heap.size := g.below.size
 have hsz : W1.heap.size = w.heap.size + 2 := by simp [W1]
 have hold : ∀ j,j < w.heap.size → W1.heap[j]? = w.heap[j]? := fun j hj=>by
  rw [Below.heap_alloc _ _ _ (by simp; omega),Below.heap_alloc _ _ _ hj]
 have hD1 : W1.heap[D]? = some (.deferred (some [])) := (Below.heap_alloc _ _ _ (by simp [D])).trans (World.alloc_heap_new w _)
 have hl1 : W1.heap[l]? = some (.loop (rec' .ready none)) := by
  have := World.alloc_heap_new (w.alloc (.deferred (some []))) (.loop (rec' .ready none))
  rwa [World.size_alloc] at this
 have hfxlt : ∀ q o,C.x.fx q = some o → q < w.heap.size := fun q o h=>(Array.getElem?_eq_some_iff.1 (g.fix.fx q o h).1).1
 have hfl : C.x.fx l = none := by
  cases h : C.x.fx l with
  | none=>rfl
  | some o=>have := hfxlt l o h; simp only [l] at this; omega
 have hne : l ≠ D := by simp only [l,D]; omega
 -- what stands while the loop runs
 have gW1 : Good C (mm s0) E H W1 := g.still rfl rfl rfl (by rw [hsz]; omega) fun j o hj=>.inl (by rw [hold j (lt_of_some hj)]; exact hj)
 let X : Loop → Ctx := C.loopX H E.b D l
 have gX : Good (X (rec' .ready none)) (mm s0) E H W1 := gW1.ctx rfl (HLe.refl _) (fun _ _ _ h=>.inl h) (loopX_fix g.fix (fun q o h=>by rw [hold q (hfxlt q o h)]; exact (g.fix.fx q o h).1) hD1 hl1 fun _ _=>rfl)
 have okI := W.okL C E H w s0 g
 have okW := W.okw C E H w s0 g
 -- the frame that waits
 let bF := b
 let aM : Act := ⟨TF,[({ target := .collected D,args := #[] } : Deferred)] ++ marksOf C.x.df⟩
 -- behind the loop
 have fin : ∀ (pe : Option Code) (s : σ) (E2 : Env) (H2 : HV) (w2 : World) (q : Loop),(pe = none ∧ Inv n s) ∨ (pe = some .ret ∧ Stop (mm s)) → q.state ≠ .busy → Good (X q) (mm s) E2 H2 w2 →
   ∃ v w3 fr,R v w3 ∧ Steps P (lone (b.atR aM ((pe.map Item.code).toList ++ k)) cs (w2.putObj l (.loop { q with state := .exhausted }))) (lone fr cs w3) ∧ fr.fn = fnF ∧ fr.leaving P w3 (.returned v) := by
  intro pe s E2 H2 w2 q hpe hq g2
  have hpin : ∀ k,PIN ≤ k → E2.b k = E.b k := fun k hk=>g2.fix.pin E.b rfl k hk
  have g3 : Good (C.marked D) (mm s) E2 H2 (w2.putObj l (.loop { q with state := .exhausted })) := g2.behind g.ext g.fresh hpn hlow (by simp only [l]; omega) hne hfl
   (fun h=>by have := hfxlt D _ (g.fix.mark D h).2; simp only [D] at this; omega)
   (fun q hq=>⟨(g.fix.mark q hq).1,fun e=>by have := hfxlt q _ (g.fix.mark q hq).2; simp only [D] at e; omega,(g.fix.mark q hq).2⟩) g.fix.nodup _
  have g4 := g3.junk E.j (hj s)
  have hden : SV.denL ⟨E2.b,E2.v,E.j⟩ tmps = SV.denL E tmps := kept_denL (E := E) (E' := ⟨E2.b,E2.v,E.j⟩) rfl hpin hkept
  have okT2 : SV.OkL H2 tmps := SV.OkL.mono g2.ext _ okT
  have run : ∀ todo,Runs P (C.marked D) ⟨⟨fnF,none,aw,todo,tmps⟩,[],mm s⟩ R → ∃ v w3 fr,R v w3 ∧ Steps P (lone (b.atR aM todo) cs (w2.putObj l (.loop { q with state := .exhausted }))) (lone fr cs w3) ∧ fr.fn = fnF ∧ fr.leaving P w3 (.returned v) := by
   intro todo hr
   have h1 : Go1 P (kindOf (C.marked D).x) fnF todo ⟨(SV.denL ⟨E2.b,E2.v,E.j⟩ tmps).toArray,marksOf (C.marked D).x.df⟩ _ R := hr _ _ _ g4 ⟨okT2,by simp⟩
   rw [kind_none (X := (C.marked D).x) hrd,hden] at h1
   exact h1 b cs hb hk hro
  rcases hpe with ⟨rfl,hi⟩ | ⟨rfl,hs⟩
  ·exact run k (done D s hi)
  ·exact run _ (stop D s hs)
 -- the iterator's frame
 let bI : Frame := { (default : Frame) with fn := it,kind := .normal,roundOf := none }
 let calls : List Frame := b.atR aM (.inRangeFunc l :: k) :: cs
 have claim : ∀ (d j : Nat) (s : σ) (E2 : Env) (H2 : HV) (w2 : World) (J : Nat → Value),n - j = d → j ≤ n → Inv j s → Good (X (rec' .ready none)) (mm s) E2 H2 w2 →
   ∃ v w3 fr,R v w3 ∧ Steps P (lone (bI.atR ⟨(SV.denL ⟨E2.b,E2.v,J⟩ (W.itL l j)).toArray,[]⟩ [.code I.loopC,.inLoop I.loopC,.inBlock 0]) calls w2) (lone fr cs w3) ∧ fr.fn = fnF ∧ fr.leaving P w3 (.returned v) := by
  intro d
  induction d with
  | zero =>
   intro j s E2 H2 w2 J hd hjn hi g2
   have okL2 : SV.OkL H2 (W.itL l j) := SV.OkL.mono g2.ext _ (okI l j)
   obtain ⟨e,T,m,E3,H3,w3,⟨rfl,rfl,rfl⟩,g3,ok3,st⟩ := piece (C := X (rec' .ready none)) rfl (W.B1 (X (rec' .ready none)) s l j rfl hjn hi) (g2.junk J (hj s)) okL2 bI [.code (.seq (.cond (.tmp 9) .skip (.exit 0)) (.seq (.block 1 (.seq (.region I.i2 I.ops2 false) (.seq (.region I.i3 I.ops3 false) (.cond (.tmp 21) .ret .skip)))) (.region I.i4 I.ops4 false))),.inLoop I.loopC,.inBlock 0] calls rfl
   have hc := act_get (E := E3) (W.c1 l j) []
   simp only [SV.den] at hc
   rw [decide_eq_false (by omega)] at hc
   have hl3 : w3.heap[l]? = some (.loop (rec' .ready none)) := (g3.fix.fx l _ (loopX_at hne)).1
   have hout := iter_out I (b := bI) (bF := b) (a := ⟨(SV.denL E3 (W.T1 l j)).toArray,[]⟩) (aM := aM) (l := l) (k := k) (cs := cs) rfl rfl rfl rfl hl3 (by simp [rec']) (todo := []) (.inl rfl)
   obtain ⟨v,w4,fr,h1,h2,h3⟩ := fin none s E3 H3 w3 (rec' .ready none) (.inl ⟨rfl,by rw [show n = j by omega]; exact hi⟩) (by simp [rec']) g3
   refine ⟨v,w4,fr,h1,?_,h3⟩
   refine .head stepR_seq (Steps.trans st (.head stepR_seq (.head (stepR_cond hc) ?_)))
   refine .head (stepR_exit (id := 0) (k' := []) rfl) ?_
   exact hout.trans h2
  | succ d ih =>
   intro j s E2 H2 w2 J hd hjn hi g2
   have hjlt : j < n := by omega
   have okL2 : SV.OkL H2 (W.itL l j) := SV.OkL.mono g2.ext _ (okI l j)
   -- up to the call of yield
   obtain ⟨e,T,m,E3,H3,w3,⟨rfl,rfl,rfl⟩,g3,ok3,st1⟩ := piece (C := X (rec' .ready none)) rfl (W.B1 (X (rec' .ready none)) s l j rfl hjn hi) (g2.junk J (hj s)) okL2 bI [.code (.seq (.cond (.tmp 9) .skip (.exit 0)) (.seq (.block 1 (.seq (.region I.i2 I.ops2 false) (.seq (.region I.i3 I.ops3 false) (.cond (.tmp 21) .ret .skip)))) (.region I.i4 I.ops4 false))),.inLoop I.loopC,.inBlock 0] calls rfl
   have hc := act_get (E := E3) (W.c1 l j) []
   simp only [SV.den] at hc
   rw [decide_eq_true (by omega)] at hc
   let K3 : List Item := [.code (.cond (.tmp 21) .ret .skip),.inBlock 1,.code (.region I.i4 I.ops4 false),.inLoop I.loopC,.inBlock 0]
   obtain ⟨e,T,m,E4,H4,w4,⟨rfl,rfl,rfl⟩,g4,ok4,st2⟩ := piece (C := X (rec' .ready none)) rfl (W.B2 (X (rec' .ready none)) s l j rfl hjlt hi) g3 ok3 bI (.code (.seq (.region I.i3 I.ops3 false) (.cond (.tmp 21) .ret .skip)) :: K3.tail) calls rfl
   obtain ⟨T,m,E5,H5,w5,⟨rfl,rfl⟩,g5,ok5,st3⟩ := piece_ops (C := X (rec' .ready none)) (Φ := fun _ T m=>T = W.T3 l j ∧ m = mm s) rfl I.calm3 (W.B3 (X (rec' .ready none)) s l j rfl hjlt hi) g4 ok4 bI [8,9] K3 calls rfl
   obtain ⟨c12,c13,c19⟩ := W.c3 l j
   have e12 := act_get (E := E5) c12 []
   have e13 := act_get (E := E5) c13 []
   have e19 := act_get (E := E5) c19 []
   simp only [SV.den] at e12 e13
   have hl5 : w5.heap[l]? = some (.loop (rec' .ready none)) := (g5.fix.fx l _ (loopX_at hne)).1
   have hy := run_yieldOp (I := I) (P := P) e12 e13 e19 hl5 rfl
   -- the round's frame
   have hpin5 : ∀ k,PIN ≤ k → E5.b k = E.b k := fun k hk=>g5.fix.pin E.b rfl k hk
   let E6 : Env := ⟨E5.b,E5.v,E.j⟩
   have g6 : Good (X (rec' .ready none)) (mm s) E6 H5 w5 := g5.junk E.j (hj s)
   have hTF : SV.denL E6 tmps = SV.denL E tmps := kept_denL (E := E) (E' := E6) rfl hpin5 hkept
   have hTR : ((#[p0,p1].zip #[Value.int .i64 (z j),(wv j).den E5]).foldl (fun tmps (t,a)=>tmps.setIfInBounds t a) TF) = (SV.denL E6 ((tmps.set p0 (.int .i64 (z j))).set p1 (wv j))).toArray := by
    simp [TF,← hTF,denL_set,SV.den,W.indep j E6 E5]
   have okR : SV.OkL H5 ((tmps.set p0 (.int .i64 (z j))).set p1 (wv j)) := okL_putS (dst := some p1) (okL_putS (dst := some p0) (SV.OkL.mono g5.ext _ okT) (by simp [SV.Ok])) ((okW j hjlt).mono g5.ext)
   let itf : Frame := bI.atR ⟨(SV.denL E5 (W.T3 l j)).toArray,[]⟩ (.inRegion I.ops3 [8,9] :: K3)
   obtain ⟨e,T,m,E7,H7,w7,⟨rfl,rfl,rfl⟩,g7,ok7,st7⟩ := piece (C := X (rec' .ready none)) rfl (assigned (X (rec' .ready none)) s j rfl hjlt hi) g6 okR (roundF fnF l) [.beginRound,.code body] (itf :: calls) rfl
   have hl7 : w7.heap[l]? = some (.loop (rec' .ready none)) := (g7.fix.fx l _ (loopX_at hne)).1
   have g8 : Good (X (rec' .busy none)) (am j s) E7 H7 (w7.putObj l (.loop (rec' .busy none))) := g7.record (by simp only [l]; omega) hne hfl
   obtain ⟨e,T9,m9,E9,H9,w9,⟨hTr,hFa⟩,g9,ok9,st9⟩ := piece (C := X (rec' .busy none)) rfl (rounds (X (rec' .busy none)) s j rfl hjlt hi) g8 ok7 (roundF fnF l) [] (itf :: calls) rfl
   have hl9 : w9.heap[l]? = some (.loop (rec' .busy none)) := (g9.fix.fx l _ (loopX_at hne)).1
   rw [hTR] at hy
   have stR := steps_round (I := I) (P := P) (b := bI) (a := ⟨(SV.denL E5 (W.T3 l j)).toArray,[]⟩) (k := K3) (cs := calls) (r := rec' .ready none) rfl hy st7 hl7 st9 hl9
   -- behind the round
   obtain ⟨J5,hJ5⟩ := maskIt (E := E5) (W.m3 l j)
   have pre : Steps P (lone (bI.atR ⟨(SV.denL ⟨E2.b,E2.v,J⟩ (W.itL l j)).toArray,[]⟩ [.code I.loopC,.inLoop I.loopC,.inBlock 0]) calls w2) (lone itf calls w5) := by
    refine .head stepR_seq (Steps.trans st1 (.head stepR_seq (.head (stepR_cond hc) (.head stepR_skip (.head stepR_seq (.head stepR_block (.head stepR_seq (Steps.trans st2 (.head stepR_seq (.head stepR_region ?_))))))))))
    rw [show List.range I.ops3.size = [0,1,2,3,4,5,6,7] ++ [8,9] by rw [I.size3]; rfl]
    exact st3
   have back : ∀ (s' : σ) (q : Loop),MemTo m9 (mm s') → Good (X q) m9 E9 H9 (w9.putObj l (.loop q)) → ∃ E10 : Env,(∀ k,PIN ≤ k → E10.b k = E.b k) ∧ Good (X q) (mm s') E10 H9 (w9.putObj l (.loop q)) ∧
     (⟨(SV.denL E5 (W.T3 l j)).toArray,[]⟩ : Act).put (some 20) (.bool e) = ⟨(SV.denL E10 ((W.itL l j).set 20 (.lb e))).toArray,[]⟩ := by
    intro s' q hm g10
    obtain ⟨E10,h1,h2,h3⟩ := hm _ _ _ _ g10
    have hp10 : ∀ k,PIN ≤ k → E10.b k = E.b k := fun k hk=>(h2 k hk).trans (g9.fix.pin E.b rfl k hk)
    refine ⟨⟨E10.b,E10.v,J5⟩,hp10,h3.junk J5 (hj s'),?_⟩
    rw [← hJ5,← kept_denL (E := ⟨E5.b,E5.v,J5⟩) (E' := ⟨E10.b,E10.v,J5⟩) rfl (fun k hk=>(hp10 k hk).trans (hpin5 k hk).symm) (W.kept l j)]
    exact put_den [] ⟨E10.b,E10.v,J5⟩ (W.itL l j) (some 20) (.lb e)
   have okS : SV.OkL H9 ((W.itL l j).set 20 (.lb e)) := okL_putS (dst := some 20) (SV.OkL.mono g9.ext _ (okI l j)) (by simp [SV.Ok])
   cases e with
   | true =>
    obtain ⟨s',hm,hi'⟩ := hTr rfl
    obtain ⟨E10,hp10,g10,hput⟩ := back s' (rec' .ready none) hm (g9.record (by simp only [l]; omega) hne hfl)
    obtain ⟨T,m,E11,H11,w11,⟨rfl,rfl⟩,g11,ok11,st11⟩ := piece_ops (C := X (rec' .ready none)) (Φ := fun _ T m=>T = W.TC true l j ∧ m = mm s') rfl I.calm3 (W.Cc (X (rec' .ready none)) s' (mm s') true l j rfl) g10 okS bI [] K3 calls rfl
    have hcc := act_get (E := E11) (W.cC true l j) []
    simp only [SV.den] at hcc
    obtain ⟨e,T,m,E12,H12,w12,⟨rfl,rfl,rfl⟩,g12,ok12,st12⟩ := piece (C := X (rec' .ready none)) rfl (W.Dd (X (rec' .ready none)) s' l j rfl hjlt) g11 ok11 bI [.inLoop I.loopC,.inBlock 0] calls rfl
    obtain ⟨J13,hJ13⟩ := maskIt (E := E12) (W.mD l j hjlt)
    obtain ⟨v,w13,fr,h1,h2,h3⟩ := ih (j + 1) s' E12 H12 w12 J13 (by omega) (by omega) hi' g12
    refine ⟨v,w13,fr,h1,?_,h3⟩
    refine pre.trans (stR.trans ?_)
    rw [hput]
    refine Steps.trans st11 (.head stepR_region_end (.head (stepR_cond hcc) (.head stepR_skip (.head stepR_inBlock (Steps.trans st12 (.head stepR_inLoop ?_))))))
    rw [← hJ13]
    exact h2
   | false =>
    obtain ⟨s',hm,hs'⟩ := hFa rfl
    obtain ⟨E10,hp10,g10,hput⟩ := back s' (rec' .done (some .ret)) hm (g9.record (by simp only [l]; omega) hne hfl)
    obtain ⟨T,m,E11,H11,w11,⟨rfl,rfl⟩,g11,ok11,st11⟩ := piece_ops (C := X (rec' .done (some .ret))) (Φ := fun _ T m=>T = W.TC false l j ∧ m = mm s') rfl I.calm3 (W.Cc (X (rec' .done (some .ret))) s' (mm s') false l j rfl) g10 okS bI [] K3 calls rfl
    have hcc := act_get (E := E11) (W.cC false l j) []
    simp only [SV.den] at hcc
    have hl11 : w11.heap[l]? = some (.loop (rec' .done (some .ret))) := (g11.fix.fx l _ (loopX_at hne)).1
    have hout := iter_out I (b := bI) (bF := b) (a := ⟨(SV.denL E11 (W.TC false l j)).toArray,[]⟩) (aM := aM) (l := l) (k := k) (cs := cs) rfl rfl rfl rfl hl11 (by simp [rec']) (todo := .code .ret :: K3.tail) (.inr ⟨_,rfl⟩)
    obtain ⟨v,w13,fr,h1,h2,h3⟩ := fin (some .ret) s' E11 H11 w11 (rec' .done (some .ret)) (.inr ⟨rfl,hs'⟩) (by simp [rec']) g11
    refine ⟨v,w13,fr,h1,?_,h3⟩
    refine pre.trans (stR.trans ?_)
    rw [hput]
    refine Steps.trans st11 (.head stepR_region_end (.head (stepR_cond hcc) ?_))
    exact hout.trans h2
 -- the statement itself
 have hev := act_get (E := E) ht (marksOf C.x.df)
 simp only [SV.den,SV.denL] at hev
 have hev : (⟨TF,marksOf C.x.df⟩ : Act).eval (.tmp t) = .func (.func it) #[] (SV.denL E caps).toArray := hev
 have hcapv : SV.denL E (SV.raw (yieldV l) :: caps ++ List.replicate 20 .undef) = yieldV l :: (SV.denL E caps ++ List.replicate 20 Go.undef) := by
  simp [SV.denL_eq,SV.den]
 have hstep : Go.step P (lone (b.atR ⟨TF,marksOf C.x.df⟩ (.code (.rangeFunc (.tmp t) #[p0,p1] assign body) :: k)) cs w) =
   .next (lone (Frame.enter P it (#[yieldV l] ++ (SV.denL E caps).toArray) .normal) calls W1) := by
  refine stepR_rangeFunc (w₁ := W1) (d := { target := .fn (.func it) (SV.denL E caps).toArray,args := #[yieldV l] }) (w₁' := W1) ?_ ?_ ?_
  ·rw [hb,hro]; exact run_enterLoop_outer _ _ _ _ _
  ·simp only [resolve,rangeCall,hev,Deferred.ofValue]
   simp [Act.eval,yieldV]
  ·have hbn : I.fn.body.isNone = false := by simp [I.body]
   simp only [invoke,callFunc,Sem.run_bind,run_program,Result.andThen_ok,I.hfn,I.name,hbn,Bool.false_eq_true,if_false,Sem.run_pure]
 have henter : Frame.enter P it (#[yieldV l] ++ (SV.denL E caps).toArray) .normal = bI.atR ⟨(SV.denL E (SV.raw (yieldV l) :: caps ++ List.replicate 20 .undef)).toArray,[]⟩ [.code (.seq (.region I.i0 I.ops0 false) (.block 0 (.loop I.loopC)))] := by
  have h2 : (SV.denL E caps).length = 2 := by rw [SV.denL_eq,List.length_map,hlen]
  have h3 : #[yieldV l] ++ (SV.denL E caps).toArray ++ Array.replicate (23 - (#[yieldV l] ++ (SV.denL E caps).toArray).size) undef = (SV.denL E (SV.raw (yieldV l) :: caps ++ List.replicate 20 .undef)).toArray := by
   rw [hcapv]; simp [h2,← List.toArray_replicate]
  rw [← h3]
  simp [Frame.enter,Frame.atR,I.hfn,I.body,I.ntmps,bI,IterCode.loopC]
 have okA : SV.OkL H (SV.raw (yieldV l) :: caps ++ List.replicate 20 .undef) := by
  refine okL_append ⟨by simp [SV.Ok],?_⟩ (by rw [SV.OkL_iff]; intro x hx; rw [List.eq_of_mem_replicate hx]; simp [SV.Ok])
  have := (SV.OkL_iff _).1 okT _ (List.mem_of_getElem? ht)
  exact this.2
 obtain ⟨e,T,m,E3,H3,w3,⟨rfl,rfl,rfl⟩,g3,ok3,stA⟩ := piece (C := X (rec' .ready none)) rfl (W.A (X (rec' .ready none)) s0 l rfl h0) gX okA bI [.code (.block 0 (.loop I.loopC))] calls rfl
 obtain ⟨JA,hJA⟩ := maskIt (E := E3) (W.mA l)
 obtain ⟨v,w4,fr,h1,h2,h3⟩ := claim n 0 s0 E3 H3 w3 JA (by omega) (Nat.zero_le _) h0 g3
 refine ⟨v,w4,fr,h1,.head hstep ?_,h3⟩
 rw [henter]
 refine .head stepR_seq (Steps.trans stA (.head stepR_block (.head stepR_loop ?_)))
 rw [← hJA]
 exact h2
end
end Sx
end
section
namespace Sx
open Go RowKit
def usesC : Code → List Nat
 | .seq a b=>usesC a ++ usesC b
 | .cond x a b=>(match x with | .tmp t=>[t] | _=>[]) ++ (usesC a ++ usesC b)
 | .block _ b=>usesC b
 | .loop b=>usesC b
 | .scope b=>usesC b
 | .region _ ops _=>ops.toList.flatMap (usesOp ops)
 | .rangeFunc g _ a b=>(match g with | .tmp t=>[t] | _=>[]) ++ (usesC a ++ usesC b)
 | _=>[]

def atRange (c : Conf) : Bool :=
 match c.rest with
 | []=>match c.top.ri with
  | none=>match c.top.todo with
   | .code (.rangeFunc ..) :: _=>true
   | _=>false
  | some _=>false
 | _ :: _=>false
def fgtQ (P : Program) (c : Conf) : Conf :=
 match c.top.todo with
 | .code (.rangeFunc g ps a b) :: k =>
  match forgetC (addNs (usesC (.rangeFunc g ps a b)) (liveI (retN P c.top.fn) k).1) c with
  | some c'=>c'
  | none=>c
 | _=>c

noncomputable def restQ (P : Program) (c : Conf) : Tree := nz (renC (fgtQ P c)) fun c=>nz (sortC c) leafR

noncomputable def execQ (P : Program) (cs : Ctrs) (n : Nat) : Conf → Tree :=
 Nat.rec (motive := fun _=>Conf → Tree) (fun _=>.stuck) (fun _ ih c=>match atRange c with
  | true=>restQ P c
  | false=>stepC P cs (fun _=>false) ih c) n

section
variable {P : Program} {C : Ctx} {R : Value → World → Prop}
theorem fgtQ_sound {c : Conf} (h : Runs P C (fgtQ P c) R) : Runs P C c R := by
 unfold fgtQ at h
 split at h
 ·split at h
  ·rename_i hc; exact forget_sound hc h
  ·exact h
 ·exact h

theorem execQ_sound {cs : Ctrs} (hcs : cs.Ok P) : ∀ (n : Nat) (c : Conf),(execQ P cs n c).holds P C R → Runs P C c R
 | 0,_,h=>h.elim
 | n + 1,c,h=>by
  have e : execQ P cs (n + 1) c = match atRange c with
   | true=>restQ P c
   | false=>stepC P cs (fun _=>false) (execQ P cs n) c := rfl
  rw [e] at h
  cases hr : atRange c with
  | true =>
   rw [hr] at h
   simp only [restQ,nz_eq,leafR_eq] at h
   exact fgtQ_sound (renC_sound (sortC_sound h))
  | false=>rw [hr] at h; exact step_sound (U := fun _=>false) (ih := execQ P cs n) hcs (fun c h=>execQ_sound hcs n c h) c h
def pinK (B k : Nat) : Nat :=
 match Nat.ble PIN k with
 | true=>k
 | false=>k + B

def pinC (B : Nat) (c : Conf) : Option Conf :=
 match Nat.ble PIN B && c.allKeys.all (fun k=>Nat.blt k B) with
 | true=>some (renWith (pinK B) c)
 | false=>none

theorem pin_to (B : Nat) {c : Conf} (c' : Conf) (hc : pinC B c = some c') (h : Runs P C c' R) (hpn : C.x.pn = none := by rfl) : Runs P C c R := by
 unfold pinC at hc
 split at hc
 ·rename_i hchk
  cases hc
  simp only [Bool.and_eq_true,List.all_eq_true] at hchk
  obtain ⟨hB,hall⟩ := hchk
  have hB : PIN ≤ B := Nat.le_of_ble_eq_true hB
  have hall : ∀ k,k ∈ c.allKeys → k < B := fun k hk=>by simpa [Nat.blt_eq] using hall k hk
  intro E H w g ok
  have all : ∀ k,k ∈ SV.keysL c.top.tmps ∨ (∃ f,f ∈ c.rest ∧ k ∈ SV.keysL f.tmps) ∨ k ∈ Mem.named c.mem → k ∈ c.allKeys := fun k hk=>by
   rcases hk with hk | ⟨f,hf,hk⟩ | hk
   ·exact meet_mem (.inl (walkK_mem (meet_mem (.inr (List.mem_append_left _ hk)))))
   ·exact meet_mem (.inl (walkK_mem (meet_mem (.inr (List.mem_append_right _ (List.mem_flatMap.2 ⟨f,hf,hk⟩))))))
   ·exact meet_mem (.inr hk)
  let E' : Env := ⟨fun i=>if B ≤ i then E.b (i - B) else E.b i,fun i=>if B ≤ i then E.v (i - B) else E.v i,E.j⟩
  have cas : ∀ k,k ∈ c.allKeys → (PIN ≤ k ∧ pinK B k = k ∧ k < B) ∨ (k < PIN ∧ pinK B k = k + B) := fun k hk=>by
   rcases Nat.lt_or_ge k PIN with hl | hl
   ·right
    refine ⟨hl,?_⟩
    have : Nat.ble PIN k = false := by
     cases hb : Nat.ble PIN k with
     | false=>rfl
     | true=>have := Nat.le_of_ble_eq_true hb; omega
    simp only [pinK,this]
   ·left
    refine ⟨hl,?_,hall k hk⟩
    simp only [pinK,Nat.ble_eq_true_of_le hl]
  have ren : ∀ k,k ∈ c.allKeys → Ren (pinK B) E E' k := fun k hk=>by
   rcases cas k hk with ⟨h1,h2,h3⟩ | ⟨h1,h2⟩
   ·simp only [Ren,E',h2,if_neg (Nat.not_le.2 h3),and_self]
   ·simp only [Ren,E',h2,if_pos (Nat.le_add_left B k),Nat.add_sub_cancel,and_self]
  have inj : ∀ k j,k ∈ c.allKeys → j ∈ c.allKeys → pinK B k = pinK B j → k = j := fun k j hk hj e=>by
   rcases cas k hk with ⟨h1,h2,h3⟩ | ⟨h1,h2⟩ <;> rcases cas j hj with ⟨g1,g2,g3⟩ | ⟨g1,g2⟩ <;> omega
  have named : ∀ k o,(k,o) ∈ c.mem → k ∈ c.allKeys ∧ ∀ j,j ∈ o.keys → j ∈ c.allKeys := fun k o hm=>by
   refine ⟨all k (.inr (.inr ?_)),fun j hj=>all j (.inr (.inr ?_))⟩
   ·simp only [Mem.named,List.mem_flatMap]; exact ⟨_,hm,List.mem_cons_self⟩
   ·simp only [Mem.named,List.mem_flatMap]; exact ⟨_,hm,List.mem_cons_of_mem _ hj⟩
  have gd : Good C (c.mem.map fun e=>(pinK B e.1,e.2.ren (pinK B))) E' H w := by
   refine ⟨g.below,g.ext,g.fresh,g.cell,fun k o hko=>?_,?_,fun x y hx hy hne hlx hly=>?_,⟨g.fix.fx,g.fix.mark,g.fix.nodup,fun f hf=>by rw [hpn] at hf; cases hf⟩⟩
   ·obtain ⟨e,he,h1⟩ := List.mem_map.1 hko
    simp only [Prod.mk.injEq] at h1
    obtain ⟨rfl,rfl⟩ := h1
    obtain ⟨n1,n2⟩ := named e.1 e.2 he
    exact (g.own e.1 e.2 he).ren (E' := E') (show E'.j = E.j from rfl) (ren _ n1) (fun j hj=>ren j (n2 j hj)) (fun es _ hk=>keysOk_ren hk)
   ·rw [List.pairwise_map]
    refine g.keys.imp_of_mem ?_
    intro a b ha hb hne e
    exact hne (inj _ _ (named a.1 a.2 ha).1 (named b.1 b.2 hb).1 e)
   ·obtain ⟨a,ha,h1⟩ := List.mem_map.1 hx
    obtain ⟨b,hb,h2⟩ := List.mem_map.1 hy
    subst h1; subst h2
    simp only at hne hlx hly ⊢
    rw [(ren a.1 (named a.1 a.2 ha).1).1,(ren b.1 (named b.1 b.2 hb).1).1]
    exact g.apart a b ha hb (fun e=>hne (by rw [e])) ((OBlk.lies_ren _ _).1 hlx) ((OBlk.lies_ren _ _).1 hly)
  have hr := h E' H w gd ⟨SV.okL_ren _ ok.1,fun f hf=>by
   obtain ⟨f',hf',rfl⟩ := List.mem_map.1 hf
   exact SV.okL_ren _ (ok.2 f' hf')⟩
  have e1 : (renWith (pinK B) c).top.den E' = c.top.den E := by
   simp only [renWith,SFrm.den]
   rw [SV.denL_ren (E := E) (E' := E') rfl _ fun k hk=>ren k (all k (.inl hk))]
  have e2 : (renWith (pinK B) c).rest.map (SFrm.den E') = c.rest.map (SFrm.den E) := by
   simp only [renWith,List.map_map]
   apply List.map_congr_left
   intro f hf
   simp only [Function.comp,SFrm.den]
   rw [SV.denL_ren (E := E) (E' := E') rfl _ fun k hk=>ren k (all k (.inr (.inl ⟨f,hf,hk⟩)))]
  rw [e1,e2] at hr
  exact hr
 ·cases hc

theorem holds_of {t t' : Tree} (e : t = t') (h : t'.holds P C R) : t.holds P C R := by rw [e]; exact h
theorem runs_perm {top : SFrm} {rest : List SFrm} {m : Mem} (m' : Mem) (hp : m'.Perm m) (h : Runs P C ⟨top,rest,m'⟩ R) : Runs P C ⟨top,rest,m⟩ R := fun E H w g ok=>h E H w (g.perm hp) ok
theorem MemTo.perm {m m' : Mem} (hp : m'.Perm m) : MemTo m m' := fun _ E _ _ g=>⟨E,rfl,fun _ _=>rfl,g.perm hp⟩
theorem MemTo.trans {a b c : Mem} (h : MemTo a b) (k : MemTo b c) : MemTo a c := fun C E H w g=>by
 obtain ⟨E1,h1,h2,h3⟩ := h C E H w g
 obtain ⟨E2,k1,k2,k3⟩ := k C E1 H w h3
 exact ⟨E2,k1.trans h1,fun q hq=>(k2 q hq).trans (h2 q hq),k3⟩
theorem perm_front {α : Type} (a b c : List α) : (b ++ (a ++ c)).Perm (a ++ (b ++ c)) := by
 rw [← List.append_assoc,← List.append_assoc]
 exact List.Perm.append_right c List.perm_append_comm
def moveK (a b k : Nat) : Nat :=
 match Nat.beq k a with
 | true=>b
 | false=>k
theorem MemTo.move {m : Mem} (a b : Nat) (hab : (Nat.blt a PIN && Nat.blt b PIN && !(m.named.contains b)) = true) : MemTo m (m.map fun e=>(moveK a b e.1,e.2.ren (moveK a b))) := by
 simp only [Bool.and_eq_true,Bool.not_eq_true',Nat.blt_eq] at hab
 obtain ⟨⟨ha,hb⟩,hno⟩ := hab
 have hno : b ∉ m.named := fun h=>by
  have := List.contains_iff_mem.2 h
  rw [hno] at this; cases this
 have e1 : ∀ k,k ≠ a → moveK a b k = k := fun k h=>by
  have : Nat.beq k a = false := by
   cases hb : Nat.beq k a with
   | false=>rfl
   | true=>exact absurd (Nat.eq_of_beq_eq_true hb) h
  simp only [moveK,this]
 have e2 : moveK a b a = b := by simp only [moveK,Nat.beq_refl]
 refine MemTo.ren _ (fun k hk=>e1 k (by omega)) (fun k _ hk=>?_) fun k j hk hj e=>?_
 ·by_cases h : k = a
  ·subst h; rw [e2]; exact hb
  ·rw [e1 k h]; exact hk
 ·by_cases h : k = a <;> by_cases h' : j = a
  ·rw [h,h']
  ·subst h; rw [e2,e1 j h'] at e; exact absurd (e ▸ hj) hno
  ·subst h'; rw [e2,e1 k h] at e; exact absurd (e ▸ hk) hno
  ·rw [e1 k h,e1 j h'] at e; exact e
theorem ret_marked {v : SV} {D : Nat} (h : (Tree.ret v).holds P C R) : (Tree.ret v).holds P (C.marked D) R := h
end
end Sx
end
section
open Go Go.Proofs Sx
namespace Go.Proofs.Ytodhhmjilnfecaa
set_option maxRecDepth 100000
set_option maxHeartbeats 0
noncomputable def icode : IterCode Try.prog 100 where
 fn := Try.f100
 hfn := by kernel_rfl
 name := by kernel_rfl
 ntmps := by kernel_rfl
 results := by kernel_rfl
 i0 := 0
 i1 := 1
 i2 := 2
 i3 := 3
 i4 := 4
 ops0 := opsAt Try.prog 100 [0]
 ops1 := opsAt Try.prog 100 [1,0,0,0]
 ops2 := opsAt Try.prog 100 [1,0,0,1,1,0,0,0]
 ops3 := opsAt Try.prog 100 [1,0,0,1,1,0,0,1,0]
 ops4 := opsAt Try.prog 100 [1,0,0,1,1,1]
 body := by kernel_rfl
 calm3 := by kernel_rfl
 size3 := by kernel_rfl
 o8 := (opsAt Try.prog 100 [1,0,0,1,1,0,0,1,0])[8]!
 at8 := by kernel_rfl
 tys := #[3,31]
 op8 := by kernel_rfl
 dst8 := by kernel_rfl
 guard8 := by kernel_rfl


noncomputable def c1L (a : D) (l : Nat) (x : Int) : List SV := mkJ 0 [(0,SV.raw (yieldV l)),(1,SV.ptr 100003 0),(2,SV.ptr 100004 0),(6,SV.dat a),(7,SV.int IntKind.i64 (D.len a : Int)),(8,SV.int IntKind.i64 x)] 0 23
noncomputable def c1A (a : D) (l : Nat) : List SV := mkU [(0,SV.raw (yieldV l)),(1,SV.ptr 100003 0),(2,SV.ptr 100004 0),(6,SV.dat a),(7,SV.int IntKind.i64 (D.len a : Int)),(8,SV.int IntKind.i64 0)] 0 23
noncomputable def c1T1 (a : D) (l : Nat) (x : Int) : List SV := mkJ 0 [(0,SV.raw (yieldV l)),(1,SV.ptr 100003 0),(2,SV.ptr 100004 0),(6,SV.dat a),(7,SV.int IntKind.i64 (D.len a : Int)),(8,SV.int IntKind.i64 x),(9,SV.bool (decide (x < (D.len a : Int))))] 0 23
noncomputable def c1T2 (a : D) (l : Nat) (x : Int) : List SV := mkJ 0 [(5,SV.int IntKind.i64 (D.getInt a (Int.toNat x) 0)),(0,SV.raw (yieldV l)),(1,SV.ptr 100003 0),(2,SV.ptr 100004 0),(6,SV.dat a),(7,SV.int IntKind.i64 (D.len a : Int)),(8,SV.int IntKind.i64 x),(9,SV.bool (decide (x < (D.len a : Int)))),(10,SV.elt a (Int.toNat x) 0),(11,SV.int IntKind.i64 (D.getInt a (Int.toNat x) 0))] 0 23
noncomputable def c1T3 (hb a : D) (l : Nat) (x : Int) : List SV := mkJ 0 [(5,SV.int IntKind.i64 (D.getInt a (Int.toNat x) 0)),(0,SV.raw (yieldV l)),(1,SV.ptr 100003 0),(2,SV.ptr 100004 0),(6,SV.dat a),(7,SV.int IntKind.i64 (D.len a : Int)),(8,SV.int IntKind.i64 x),(9,SV.bool (decide (x < (D.len a : Int)))),(10,SV.elt a (Int.toNat x) 0),(11,SV.int IntKind.i64 (D.getInt a (Int.toNat x) 0)),(12,SV.raw (yieldV l)),(13,SV.int IntKind.i64 (D.getInt a (Int.toNat x) 0)),(14,SV.ptr 100004 0),(15,SV.ptr 100004 1),(16,SV.dat hb),(17,SV.int IntKind.i64 (D.getInt a (Int.toNat x) 0)),(18,SV.elt hb (Int.toNat (D.getInt a (Int.toNat x) 0)) 0),(19,(SV.agg [SV.int IntKind.i64 (D.getInt hb (Int.toNat (D.getInt a (Int.toNat x) 0)) 0),SV.int IntKind.i64 (D.getInt hb (Int.toNat (D.getInt a (Int.toNat x) 0)) 1),SV.dat (D.cell hb (Int.toNat (D.getInt a (Int.toNat x) 0)) 2)]))] 0 23
noncomputable def c1TC (a : D) (e : Bool) (l : Nat) (x : Int) : List SV := mkJ 0 [(0,SV.raw (yieldV l)),(1,SV.ptr 100003 0),(2,SV.ptr 100004 0),(6,SV.dat a),(7,SV.int IntKind.i64 (D.len a : Int)),(8,SV.int IntKind.i64 x),(20,SV.lb e),(21,SV.lb (!e))] 0 23
noncomputable def c1TD (a : D) (l : Nat) (x : Int) : List SV := mkJ 0 [(0,SV.raw (yieldV l)),(1,SV.ptr 100003 0),(2,SV.ptr 100004 0),(6,SV.dat a),(7,SV.int IntKind.i64 (D.len a : Int)),(8,SV.int IntKind.i64 (IntKind.wrap IntKind.i64 (x + 1))),(20,SV.lb true),(21,SV.lb false),(22,SV.int IntKind.i64 (IntKind.wrap IntKind.i64 (x + 1)))] 0 23
section
variable (ha hb hc i o a : D) (l : Nat) (x : Int) (e : Bool) (r : Mem)
theorem c1_A : execT Try.prog [] (fun _=>false) 4 ⟨⟨100,none,none,[.code (cAt Try.prog 100 [0])],SV.raw (yieldV l) :: [SV.ptr 100003 0,SV.ptr 100004 0] ++ List.replicate 20 .undef⟩,[],((100003,OBlk.cells 22 [SV.dat a]) :: (100004,OBlk.cells 121 [SV.dat ha,SV.dat hb,SV.dat hc,SV.dat i,SV.dat o]) :: r)⟩ = .leaf ⟨⟨100,some (opsAt Try.prog 100 [0],[]),none,[],c1A a l⟩,[],((100003,OBlk.cells 22 [SV.dat a]) :: (100004,OBlk.cells 121 [SV.dat ha,SV.dat hb,SV.dat hc,SV.dat i,SV.dat o]) :: r)⟩ := by kernel_rfl
theorem c1_B1 : execT Try.prog [] (fun _=>false) 2 ⟨⟨100,none,none,[.code (cAt Try.prog 100 [1,0,0,0])],c1L a l x⟩,[],((100003,OBlk.cells 22 [SV.dat a]) :: (100004,OBlk.cells 121 [SV.dat ha,SV.dat hb,SV.dat hc,SV.dat i,SV.dat o]) :: r)⟩ = .leaf ⟨⟨100,some (opsAt Try.prog 100 [1,0,0,0],[]),none,[],c1T1 a l x⟩,[],((100003,OBlk.cells 22 [SV.dat a]) :: (100004,OBlk.cells 121 [SV.dat ha,SV.dat hb,SV.dat hc,SV.dat i,SV.dat o]) :: r)⟩ := by kernel_rfl
theorem c1_B2 : execT Try.prog [] (fun _=>false) 4 ⟨⟨100,none,none,[.code (cAt Try.prog 100 [1,0,0,1,1,0,0,0])],c1T1 a l x⟩,[],((100003,OBlk.cells 22 [SV.dat a]) :: (100004,OBlk.cells 121 [SV.dat ha,SV.dat hb,SV.dat hc,SV.dat i,SV.dat o]) :: r)⟩ = .need (0 ≤ x ∧ x < (D.len a : Int) ∧ D.sz a = 1) (.need (D.HasCell a (Int.toNat x) 0 (FT.int IntKind.i64)) (.leaf ⟨⟨100,some (opsAt Try.prog 100 [1,0,0,1,1,0,0,0],[]),none,[],c1T2 a l x⟩,[],((100003,OBlk.cells 22 [SV.dat a]) :: (100004,OBlk.cells 121 [SV.dat ha,SV.dat hb,SV.dat hc,SV.dat i,SV.dat o]) :: r)⟩)) := by kernel_rfl
theorem c1_B3 : execT Try.prog [] (fun _=>false) 8 ⟨⟨100,some (opsAt Try.prog 100 [1,0,0,1,1,0,0,1,0],[0,1,2,3,4,5,6,7]),none,[],c1T2 a l x⟩,[],((100003,OBlk.cells 22 [SV.dat a]) :: (100004,OBlk.cells 121 [SV.dat ha,SV.dat hb,SV.dat hc,SV.dat i,SV.dat o]) :: r)⟩ = .need (0 ≤ (D.getInt a (Int.toNat x) 0) ∧ (D.getInt a (Int.toNat x) 0) < (D.len hb : Int) ∧ D.sz hb = 3) (.need (D.HasCells hb (Int.toNat (D.getInt a (Int.toNat x) 0)) 0 [FT.int IntKind.i64,FT.int IntKind.i64,FT.slc]) (.leaf ⟨⟨100,some (opsAt Try.prog 100 [1,0,0,1,1,0,0,1,0],[]),none,[],c1T3 hb a l x⟩,[],((100003,OBlk.cells 22 [SV.dat a]) :: (100004,OBlk.cells 121 [SV.dat ha,SV.dat hb,SV.dat hc,SV.dat i,SV.dat o]) :: r)⟩)) := by kernel_rfl
theorem c1_C (m : Mem) : execT Try.prog [] (fun _=>false) 1 ⟨⟨100,some (opsAt Try.prog 100 [1,0,0,1,1,0,0,1,0],[9]),none,[],(c1L a l x).set 20 (.lb e)⟩,[],m⟩ = .leaf ⟨⟨100,some (opsAt Try.prog 100 [1,0,0,1,1,0,0,1,0],[]),none,[],c1TC a e l x⟩,[],m⟩ := by cases e <;> kernel_rfl
theorem c1_D : execT Try.prog [] (fun _=>false) 3 ⟨⟨100,none,none,[.code (cAt Try.prog 100 [1,0,0,1,1,1])],c1TC a true l x⟩,[],((100003,OBlk.cells 22 [SV.dat a]) :: (100004,OBlk.cells 121 [SV.dat ha,SV.dat hb,SV.dat hc,SV.dat i,SV.dat o]) :: r)⟩ = .leaf ⟨⟨100,some (opsAt Try.prog 100 [1,0,0,1,1,1],[]),none,[],c1TD a l x⟩,[],((100003,OBlk.cells 22 [SV.dat a]) :: (100004,OBlk.cells 121 [SV.dat ha,SV.dat hb,SV.dat hc,SV.dat i,SV.dat o]) :: r)⟩ := by kernel_rfl
end
noncomputable def c1W {σ : Type} {ha hb hc i o a : D} (r : σ → Mem) (Inv : Nat → σ → Prop) (hset : a.Is Int) (hw : hb.Is Wt) (hlen : a.len ≤ 1048576) (hin : ∀ j,j < a.len → 0 ≤ a.getInt (Int.toNat (j : Int)) 0 ∧ a.getInt (Int.toNat (j : Int)) 0 < (hb.len : Int)) :
  IterWalk icode (fun s=>(100003,OBlk.cells 22 [SV.dat a]) :: (100004,OBlk.cells 121 [SV.dat ha,SV.dat hb,SV.dat hc,SV.dat i,SV.dat o]) :: r s) a.len (fun j=>a.getInt (Int.toNat (j : Int)) 0) (fun j=>wvH hb (a.getInt (Int.toNat (j : Int)) 0)) Inv [SV.ptr 100003 0,SV.ptr 100004 0] where
 itL l j := c1L a l j
 TA l := c1A a l
 T1 l j := c1T1 a l j
 T2 l j := c1T2 a l j
 T3 l j := c1T3 hb a l j
 TC e l j := c1TC a e l j
 TD l j := c1TD a l j
 kept _ _ := rfl
 okL C E H w s g l j := by
  obtain ⟨_,_,_,h⟩ := g.own 100003 _ List.mem_cons_self
  simp [c1L,mkJ,slotS,SV.OkL,SV.Ok,h.1.1,h.1.2]
 okw C E H w s g j hj := by
  obtain ⟨_,_,_,h⟩ := g.own 100004 _ (List.mem_cons_of_mem _ List.mem_cons_self)
  have hz := hin j hj
  exact wvH_ok hw h.2.1.1 hz.1 hz.2
 A C s l hrd _ := by
  apply execT_sound (noCtr _) (fun _=>false) 4
  refine holds_of (c1_A ha hb hc i o a l (r s)) ?_
  exact end_ops hrd ⟨rfl,rfl,rfl⟩
 mA l := ⟨rfl,rfl⟩
 B1 C s l j hrd _ _ := by
  apply execT_sound (noCtr _) (fun _=>false) 2
  refine holds_of (c1_B1 ha hb hc i o a l j (r s)) ?_
  exact end_ops hrd ⟨rfl,rfl,rfl⟩
 c1 l j := rfl
 B2 C s l j hrd hj _ := by
  apply execT_sound (noCtr _) (fun _=>false) 4
  refine holds_of (c1_B2 ha hb hc i o a l j (r s)) ?_
  have hj' : j < (a.to Int).length := by rw [← D.Is.length (α := Int)]; exact hj
  obtain ⟨c1,c2,_⟩ := int_at hset hj'
  exact ⟨c1,c2,end_ops hrd ⟨rfl,rfl,rfl⟩⟩
 B3 C s l j hrd hj _ := by
  apply execT_sound (noCtr _) (fun _=>false) 8
  refine holds_of (c1_B3 ha hb hc i o a l j (r s)) ?_
  have hz := hin j hj
  have hi : Int.toNat (a.getInt (Int.toNat (j : Int)) 0) < (hb.to Wt).length := by rw [← D.Is.length (α := Wt)]; omega
  exact ⟨⟨hz.1,hz.2,hw.size hi⟩,(wt_cell hw hi).1,end_ops hrd ⟨rfl,rfl,rfl⟩⟩
 c3 l j := ⟨rfl,rfl,rfl⟩
 m3 l j := ⟨rfl,rfl⟩
 Cc C s m e l j hrd := by
  apply execT_sound (noCtr _) (fun _=>false) 1
  refine holds_of (c1_C a l j e m) ?_
  exact end_ops hrd ⟨rfl,rfl,rfl⟩
 cC e l j := rfl
 Dd C s l j hrd _ := by
  apply execT_sound (noCtr _) (fun _=>false) 3
  refine holds_of (c1_D ha hb hc i o a l j (r s)) ?_
  exact end_ops hrd ⟨rfl,rfl,rfl⟩
 mD l j hj := by
  refine ⟨?_,rfl⟩
  have e : maskT 0 liveIt 0 (c1TD a l j) = c1L a l (IntKind.wrap IntKind.i64 ((j : Int) + 1)) := rfl
  rw [e,wrap_succ hj hlen]
 indep j E E' := by simp [wvH,SV.den,SV.denL]


noncomputable def c2L (a : D) (l : Nat) (x : Int) : List SV := mkJ 0 [(0,SV.raw (yieldV l)),(1,SV.ptr 200005 0),(2,SV.ptr 200006 0),(6,SV.dat a),(7,SV.int IntKind.i64 (D.len a : Int)),(8,SV.int IntKind.i64 x)] 0 23
noncomputable def c2A (a : D) (l : Nat) : List SV := mkU [(0,SV.raw (yieldV l)),(1,SV.ptr 200005 0),(2,SV.ptr 200006 0),(6,SV.dat a),(7,SV.int IntKind.i64 (D.len a : Int)),(8,SV.int IntKind.i64 0)] 0 23
noncomputable def c2T1 (a : D) (l : Nat) (x : Int) : List SV := mkJ 0 [(0,SV.raw (yieldV l)),(1,SV.ptr 200005 0),(2,SV.ptr 200006 0),(6,SV.dat a),(7,SV.int IntKind.i64 (D.len a : Int)),(8,SV.int IntKind.i64 x),(9,SV.bool (decide (x < (D.len a : Int))))] 0 23
noncomputable def c2T2 (a : D) (l : Nat) (x : Int) : List SV := mkJ 0 [(5,SV.int IntKind.i64 (D.getInt a (Int.toNat x) 0)),(0,SV.raw (yieldV l)),(1,SV.ptr 200005 0),(2,SV.ptr 200006 0),(6,SV.dat a),(7,SV.int IntKind.i64 (D.len a : Int)),(8,SV.int IntKind.i64 x),(9,SV.bool (decide (x < (D.len a : Int)))),(10,SV.elt a (Int.toNat x) 0),(11,SV.int IntKind.i64 (D.getInt a (Int.toNat x) 0))] 0 23
noncomputable def c2T3 (hb a : D) (l : Nat) (x : Int) : List SV := mkJ 0 [(5,SV.int IntKind.i64 (D.getInt a (Int.toNat x) 0)),(0,SV.raw (yieldV l)),(1,SV.ptr 200005 0),(2,SV.ptr 200006 0),(6,SV.dat a),(7,SV.int IntKind.i64 (D.len a : Int)),(8,SV.int IntKind.i64 x),(9,SV.bool (decide (x < (D.len a : Int)))),(10,SV.elt a (Int.toNat x) 0),(11,SV.int IntKind.i64 (D.getInt a (Int.toNat x) 0)),(12,SV.raw (yieldV l)),(13,SV.int IntKind.i64 (D.getInt a (Int.toNat x) 0)),(14,SV.ptr 200006 0),(15,SV.ptr 200006 1),(16,SV.dat hb),(17,SV.int IntKind.i64 (D.getInt a (Int.toNat x) 0)),(18,SV.elt hb (Int.toNat (D.getInt a (Int.toNat x) 0)) 0),(19,(SV.agg [SV.int IntKind.i64 (D.getInt hb (Int.toNat (D.getInt a (Int.toNat x) 0)) 0),SV.int IntKind.i64 (D.getInt hb (Int.toNat (D.getInt a (Int.toNat x) 0)) 1),SV.dat (D.cell hb (Int.toNat (D.getInt a (Int.toNat x) 0)) 2)]))] 0 23
noncomputable def c2TC (a : D) (e : Bool) (l : Nat) (x : Int) : List SV := mkJ 0 [(0,SV.raw (yieldV l)),(1,SV.ptr 200005 0),(2,SV.ptr 200006 0),(6,SV.dat a),(7,SV.int IntKind.i64 (D.len a : Int)),(8,SV.int IntKind.i64 x),(20,SV.lb e),(21,SV.lb (!e))] 0 23
noncomputable def c2TD (a : D) (l : Nat) (x : Int) : List SV := mkJ 0 [(0,SV.raw (yieldV l)),(1,SV.ptr 200005 0),(2,SV.ptr 200006 0),(6,SV.dat a),(7,SV.int IntKind.i64 (D.len a : Int)),(8,SV.int IntKind.i64 (IntKind.wrap IntKind.i64 (x + 1))),(20,SV.lb true),(21,SV.lb false),(22,SV.int IntKind.i64 (IntKind.wrap IntKind.i64 (x + 1)))] 0 23
section
variable (ha hb hc i o a : D) (l : Nat) (x : Int) (e : Bool) (r : Mem)
theorem c2_A : execT Try.prog [] (fun _=>false) 4 ⟨⟨100,none,none,[.code (cAt Try.prog 100 [0])],SV.raw (yieldV l) :: [SV.ptr 200005 0,SV.ptr 200006 0] ++ List.replicate 20 .undef⟩,[],((200005,OBlk.cells 22 [SV.dat a]) :: (200006,OBlk.cells 121 [SV.dat ha,SV.dat hb,SV.dat hc,SV.dat i,SV.dat o]) :: r)⟩ = .leaf ⟨⟨100,some (opsAt Try.prog 100 [0],[]),none,[],c2A a l⟩,[],((200005,OBlk.cells 22 [SV.dat a]) :: (200006,OBlk.cells 121 [SV.dat ha,SV.dat hb,SV.dat hc,SV.dat i,SV.dat o]) :: r)⟩ := by kernel_rfl
theorem c2_B1 : execT Try.prog [] (fun _=>false) 2 ⟨⟨100,none,none,[.code (cAt Try.prog 100 [1,0,0,0])],c2L a l x⟩,[],((200005,OBlk.cells 22 [SV.dat a]) :: (200006,OBlk.cells 121 [SV.dat ha,SV.dat hb,SV.dat hc,SV.dat i,SV.dat o]) :: r)⟩ = .leaf ⟨⟨100,some (opsAt Try.prog 100 [1,0,0,0],[]),none,[],c2T1 a l x⟩,[],((200005,OBlk.cells 22 [SV.dat a]) :: (200006,OBlk.cells 121 [SV.dat ha,SV.dat hb,SV.dat hc,SV.dat i,SV.dat o]) :: r)⟩ := by kernel_rfl
theorem c2_B2 : execT Try.prog [] (fun _=>false) 4 ⟨⟨100,none,none,[.code (cAt Try.prog 100 [1,0,0,1,1,0,0,0])],c2T1 a l x⟩,[],((200005,OBlk.cells 22 [SV.dat a]) :: (200006,OBlk.cells 121 [SV.dat ha,SV.dat hb,SV.dat hc,SV.dat i,SV.dat o]) :: r)⟩ = .need (0 ≤ x ∧ x < (D.len a : Int) ∧ D.sz a = 1) (.need (D.HasCell a (Int.toNat x) 0 (FT.int IntKind.i64)) (.leaf ⟨⟨100,some (opsAt Try.prog 100 [1,0,0,1,1,0,0,0],[]),none,[],c2T2 a l x⟩,[],((200005,OBlk.cells 22 [SV.dat a]) :: (200006,OBlk.cells 121 [SV.dat ha,SV.dat hb,SV.dat hc,SV.dat i,SV.dat o]) :: r)⟩)) := by kernel_rfl
theorem c2_B3 : execT Try.prog [] (fun _=>false) 8 ⟨⟨100,some (opsAt Try.prog 100 [1,0,0,1,1,0,0,1,0],[0,1,2,3,4,5,6,7]),none,[],c2T2 a l x⟩,[],((200005,OBlk.cells 22 [SV.dat a]) :: (200006,OBlk.cells 121 [SV.dat ha,SV.dat hb,SV.dat hc,SV.dat i,SV.dat o]) :: r)⟩ = .need (0 ≤ (D.getInt a (Int.toNat x) 0) ∧ (D.getInt a (Int.toNat x) 0) < (D.len hb : Int) ∧ D.sz hb = 3) (.need (D.HasCells hb (Int.toNat (D.getInt a (Int.toNat x) 0)) 0 [FT.int IntKind.i64,FT.int IntKind.i64,FT.slc]) (.leaf ⟨⟨100,some (opsAt Try.prog 100 [1,0,0,1,1,0,0,1,0],[]),none,[],c2T3 hb a l x⟩,[],((200005,OBlk.cells 22 [SV.dat a]) :: (200006,OBlk.cells 121 [SV.dat ha,SV.dat hb,SV.dat hc,SV.dat i,SV.dat o]) :: r)⟩)) := by kernel_rfl
theorem c2_C (m : Mem) : execT Try.prog [] (fun _=>false) 1 ⟨⟨100,some (opsAt Try.prog 100 [1,0,0,1,1,0,0,1,0],[9]),none,[],(c2L a l x).set 20 (.lb e)⟩,[],m⟩ = .leaf ⟨⟨100,some (opsAt Try.prog 100 [1,0,0,1,1,0,0,1,0],[]),none,[],c2TC a e l x⟩,[],m⟩ := by cases e <;> kernel_rfl
theorem c2_D : execT Try.prog [] (fun _=>false) 3 ⟨⟨100,none,none,[.code (cAt Try.prog 100 [1,0,0,1,1,1])],c2TC a true l x⟩,[],((200005,OBlk.cells 22 [SV.dat a]) :: (200006,OBlk.cells 121 [SV.dat ha,SV.dat hb,SV.dat hc,SV.dat i,SV.dat o]) :: r)⟩ = .leaf ⟨⟨100,some (opsAt Try.prog 100 [1,0,0,1,1,1],[]),none,[],c2TD a l x⟩,[],((200005,OBlk.cells 22 [SV.dat a]) :: (200006,OBlk.cells 121 [SV.dat ha,SV.dat hb,SV.dat hc,SV.dat i,SV.dat o]) :: r)⟩ := by kernel_rfl
end
noncomputable def c2W {σ : Type} {ha hb hc i o a : D} (r : σ → Mem) (Inv : Nat → σ → Prop) (hset : a.Is Int) (hw : hb.Is Wt) (hlen : a.len ≤ 1048576) (hin : ∀ j,j < a.len → 0 ≤ a.getInt (Int.toNat (j : Int)) 0 ∧ a.getInt (Int.toNat (j : Int)) 0 < (hb.len : Int)) :
  IterWalk icode (fun s=>(200005,OBlk.cells 22 [SV.dat a]) :: (200006,OBlk.cells 121 [SV.dat ha,SV.dat hb,SV.dat hc,SV.dat i,SV.dat o]) :: r s) a.len (fun j=>a.getInt (Int.toNat (j : Int)) 0) (fun j=>wvH hb (a.getInt (Int.toNat (j : Int)) 0)) Inv [SV.ptr 200005 0,SV.ptr 200006 0] where
 itL l j := c2L a l j
 TA l := c2A a l
 T1 l j := c2T1 a l j
 T2 l j := c2T2 a l j
 T3 l j := c2T3 hb a l j
 TC e l j := c2TC a e l j
 TD l j := c2TD a l j
 kept _ _ := rfl
 okL C E H w s g l j := by
  obtain ⟨_,_,_,h⟩ := g.own 200005 _ List.mem_cons_self
  simp [c2L,mkJ,slotS,SV.OkL,SV.Ok,h.1.1,h.1.2]
 okw C E H w s g j hj := by
  obtain ⟨_,_,_,h⟩ := g.own 200006 _ (List.mem_cons_of_mem _ List.mem_cons_self)
  have hz := hin j hj
  exact wvH_ok hw h.2.1.1 hz.1 hz.2
 A C s l hrd _ := by
  apply execT_sound (noCtr _) (fun _=>false) 4
  refine holds_of (c2_A ha hb hc i o a l (r s)) ?_
  exact end_ops hrd ⟨rfl,rfl,rfl⟩
 mA l := ⟨rfl,rfl⟩
 B1 C s l j hrd _ _ := by
  apply execT_sound (noCtr _) (fun _=>false) 2
  refine holds_of (c2_B1 ha hb hc i o a l j (r s)) ?_
  exact end_ops hrd ⟨rfl,rfl,rfl⟩
 c1 l j := rfl
 B2 C s l j hrd hj _ := by
  apply execT_sound (noCtr _) (fun _=>false) 4
  refine holds_of (c2_B2 ha hb hc i o a l j (r s)) ?_
  have hj' : j < (a.to Int).length := by rw [← D.Is.length (α := Int)]; exact hj
  obtain ⟨c1,c2,_⟩ := int_at hset hj'
  exact ⟨c1,c2,end_ops hrd ⟨rfl,rfl,rfl⟩⟩
 B3 C s l j hrd hj _ := by
  apply execT_sound (noCtr _) (fun _=>false) 8
  refine holds_of (c2_B3 ha hb hc i o a l j (r s)) ?_
  have hz := hin j hj
  have hi : Int.toNat (a.getInt (Int.toNat (j : Int)) 0) < (hb.to Wt).length := by rw [← D.Is.length (α := Wt)]; omega
  exact ⟨⟨hz.1,hz.2,hw.size hi⟩,(wt_cell hw hi).1,end_ops hrd ⟨rfl,rfl,rfl⟩⟩
 c3 l j := ⟨rfl,rfl,rfl⟩
 m3 l j := ⟨rfl,rfl⟩
 Cc C s m e l j hrd := by
  apply execT_sound (noCtr _) (fun _=>false) 1
  refine holds_of (c2_C a l j e m) ?_
  exact end_ops hrd ⟨rfl,rfl,rfl⟩
 cC e l j := rfl
 Dd C s l j hrd _ := by
  apply execT_sound (noCtr _) (fun _=>false) 3
  refine holds_of (c2_D ha hb hc i o a l j (r s)) ?_
  exact end_ops hrd ⟨rfl,rfl,rfl⟩
 mD l j hj := by
  refine ⟨?_,rfl⟩
  have e : maskT 0 liveIt 0 (c2TD a l j) = c2L a l (IntKind.wrap IntKind.i64 ((j : Int) + 1)) := rfl
  rw [e,wrap_succ hj hlen]
 indep j E E' := by simp [wvH,SV.den,SV.denL]

end Go.Proofs.Ytodhhmjilnfecaa
end
section
open Go Go.Proofs Sx
namespace Go.Proofs.Ytodhhmjilnfecaa
set_option maxRecDepth 100000
set_option maxHeartbeats 0
noncomputable def ctB : Ctrs := [(96,ctrOf ((rdTl.three rdInt rdInt).sp spBefT))]
section
variable (ha hb hc i o a : D)
theorem icl_in : execQ Try.prog ctB 300 (entry Try.prog 70 [.agg [.dat ha,.dat hb,.dat hc,.dat i,.dat o],.dat a]) =
 Tree.need
 (0 ≤ (↑(D.len hb) : Int) ∧
 (↑(D.len hb) : Int) = (↑(D.len hb) : Int) ∧
 (↑1 : Int) * (↑(D.len hb) : Int) ≤ 281474976710656 ∧ (↑(D.len hb) : Int) ≤ 9223372036854775807)
 (.all fun hs =>
 .leaf
 (Conf.mk
 (SFrm.mk 70 none none
 [Item.code (cAt Try.prog 70 [1,1,0,1,0]),Item.inBlock 0,Item.code (cAt Try.prog 70 [1,1,1])]
 (mkU
 [(0,SV.junk 0),(1,.dat a),(2,.ptr 0 0),(3,SV.junk 3),(4,.ptr 1 0),(5,.ptr 2 0),
 (7,SV.junk 7),(8,SV.junk 8),(9,SV.junk 9),(10,SV.junk 10),(11,SV.junk 11),(12,SV.junk 12),
 (13,SV.junk 13),(14,SV.junk 14),(15,SV.junk 15),(16,SV.fn 100 [] [.ptr 3 0,.ptr 4 0]),
 (18,SV.junk 18),(22,SV.junk 22),(23,SV.junk 23),(24,SV.junk 24),(25,SV.junk 25),
 (26,SV.junk 26),(27,SV.junk 27),(28,SV.junk 28),(29,SV.junk 29),(30,SV.junk 30),
 (31,SV.junk 31),(32,SV.junk 32),(33,SV.junk 33),(34,SV.junk 34),(35,SV.junk 35),
 (36,SV.junk 36),(37,SV.junk 37),(38,SV.junk 38),(39,SV.junk 39),(40,SV.junk 40),
 (41,SV.junk 41),(42,SV.junk 42),(43,SV.junk 43),(44,SV.junk 44),(45,SV.junk 45),
 (46,SV.junk 46)]
 0 47))
 []
 [(0,OBlk.cells 121 [.dat ha,.dat hb,.dat hc,.dat i,.dat o]),(1,OBlk.cells 4 [.lb false]),
 (2,OBlk.cells 87 [.vec 5]),(3,OBlk.cells 22 [.dat a]),
 (4,OBlk.cells 121 [.dat ha,.dat hb,.dat hc,.dat i,.dat o]),
 (5,OBlk.arr 4 (D.slc (D.hd (hs 0 0)) 1 (List.replicate (Int.toNat (↑(D.len hb) : Int)) [D.bool false])))])) := by kernel_rfl

end
end Go.Proofs.Ytodhhmjilnfecaa
end
section
open Go Go.Proofs Sx
namespace Go.Proofs.Ytodhhmjilnfecaa
set_option maxRecDepth 100000
set_option maxHeartbeats 0
noncomputable def clK : List Item := [Item.inBlock 0,Item.code (cAt Try.prog 70 [1,1,1])]
noncomputable def clT (a : D) : List SV := mkU [(0,SV.junk 0),(1,.dat a),(2,.ptr 100000 0),(3,SV.junk 3),(4,.ptr 100001 0),(5,.ptr 100002 0),(7,SV.junk 7),(8,SV.junk 8),(9,SV.junk 9),(10,SV.junk 10),(11,SV.junk 11),(12,SV.junk 12),(13,SV.junk 13),(14,SV.junk 14),(15,SV.junk 15),(16,SV.fn 100 [] [.ptr 100003 0,.ptr 100004 0]),(18,SV.junk 18),(22,SV.junk 22),(23,SV.junk 23),(24,SV.junk 24),(25,SV.junk 25),(26,SV.junk 26),(27,SV.junk 27),(28,SV.junk 28),(29,SV.junk 29),(30,SV.junk 30),(31,SV.junk 31),(32,SV.junk 32),(33,SV.junk 33),(34,SV.junk 34),(35,SV.junk 35),(36,SV.junk 36),(37,SV.junk 37),(38,SV.junk 38),(39,SV.junk 39),(40,SV.junk 40),(41,SV.junk 41),(42,SV.junk 42),(43,SV.junk 43),(44,SV.junk 44),(45,SV.junk 45),(46,SV.junk 46)] 0 47
noncomputable def clM (ha hb hc i o a q : D) : Mem := (100003,OBlk.cells 22 [.dat a]) :: (100004,OBlk.cells 121 [.dat ha,.dat hb,.dat hc,.dat i,.dat o]) :: [(100000,OBlk.cells 121 [.dat ha,.dat hb,.dat hc,.dat i,.dat o]),(100001,OBlk.cells 4 [.lb false]),(100002,OBlk.cells 87 [.vec 100005]),(100005,OBlk.arr 4 q)]
noncomputable def clR (hb a : D) (z : Int) : List SV := ((clT a).set 17 (.int .i64 z)).set 18 (wvH hb z)
section
variable (ha hb hc i o a q : D) (z : Int)
theorem cla_go : execP Try.prog [] 100 ⟨⟨70,none,none,[.code (cAt Try.prog 70 [1,1,0,1,0,0])],clR hb a z⟩,[],clM ha hb hc i o a q⟩ =
 Tree.leaf
 (Conf.mk
 (SFrm.mk 70 none none []
 (mkU
 [(0,SV.junk 0),(1,.dat a),(2,.ptr 100000 0),(3,SV.junk 3),(4,.ptr 100001 0),
 (5,.ptr 100002 0),(6,.int .i64 z),(7,SV.junk 7),(8,SV.junk 8),(9,SV.junk 9),
 (10,SV.junk 10),(11,SV.junk 11),(12,SV.junk 12),(13,SV.junk 13),(14,SV.junk 14),(15,SV.junk 15),
 (16,SV.fn 100 [] [.ptr 100003 0,.ptr 100004 0]),(17,.int .i64 z),
 (18,
 .agg
 [.int .i64 (D.getInt hb (Int.toNat z) 0),.int .i64 (D.getInt hb (Int.toNat z) 1),
 .dat (D.cell hb (Int.toNat z) 2)]),
 (22,SV.junk 22),(23,SV.junk 23),(24,SV.junk 24),(25,SV.junk 25),(26,SV.junk 26),(27,SV.junk 27),
 (28,SV.junk 28),(29,SV.junk 29),(30,SV.junk 30),(31,SV.junk 31),(32,SV.junk 32),(33,SV.junk 33),
 (34,SV.junk 34),(35,SV.junk 35),(36,SV.junk 36),(37,SV.junk 37),(38,SV.junk 38),(39,SV.junk 39),
 (40,SV.junk 40),(41,SV.junk 41),(42,SV.junk 42),(43,SV.junk 43),(44,SV.junk 44),(45,SV.junk 45),
 (46,SV.junk 46)]
 0 47))
 []
 [(100003,OBlk.cells 22 [.dat a]),(100004,OBlk.cells 121 [.dat ha,.dat hb,.dat hc,.dat i,.dat o]),
 (100000,OBlk.cells 121 [.dat ha,.dat hb,.dat hc,.dat i,.dat o]),
 (100001,OBlk.cells 4 [.lb false]),(100002,OBlk.cells 87 [.vec 100005]),(100005,OBlk.arr 4 q)]) := by kernel_rfl

theorem clb_go : execP Try.prog [] 100 ⟨⟨70,none,none,[.code (cAt Try.prog 70 [1,1,0,1,0,1])],(clR hb a z).set 6 (.int .i64 z)⟩,[],clM ha hb hc i o a q⟩ =
 Tree.need (0 ≤ z ∧ z < (↑(D.len q) : Int) ∧ D.sz q = 1)
 (.need (Int.toNat z < D.len q ∧ 1 ≤ D.sz q ∧ D.sz q = 1)
 (.leaf
 (Conf.mk
 (SFrm.mk 70 none none []
 (mkJ 0
 [(1,.dat a),(2,.ptr 100000 0),(4,.ptr 100001 0),(5,.ptr 100002 0),(6,.int .i64 z),
 (16,SV.fn 100 [] [.ptr 100003 0,.ptr 100004 0]),(17,.int .i64 z),
 (18,
 .agg
 [.int .i64 (D.getInt hb (Int.toNat z) 0),.int .i64 (D.getInt hb (Int.toNat z) 1),
 .dat (D.cell hb (Int.toNat z) 2)]),
 (19,.vec 100005),(20,.int .i64 z),(21,SV.velt 100005 1 (Int.toNat z) 0)]
 0 47))
 []
 [(100003,OBlk.cells 22 [.dat a]),
 (100004,OBlk.cells 121 [.dat ha,.dat hb,.dat hc,.dat i,.dat o]),
 (100000,OBlk.cells 121 [.dat ha,.dat hb,.dat hc,.dat i,.dat o]),
 (100001,OBlk.cells 4 [.lb false]),(100002,OBlk.cells 87 [.vec 100005]),
 (100005,OBlk.arr 4 (D.setCells q (Int.toNat z) 0 [D.bool true]))]))) := by kernel_rfl

theorem clq_in : execQ Try.prog ctB 300 ⟨⟨70,none,none,clK,clT a⟩,[],clM ha hb hc i o a q⟩ =
 Tree.leaf
 (Conf.mk
 (SFrm.mk 70 none none
 [Item.code (cAt Try.prog 70 [1,1,1,0,1,0]),Item.inBlock 2,Item.code (cAt Try.prog 70 [1,1,1,1])]
 (mkU
 [(0,SV.junk 0),(1,.dat a),(2,.ptr 100000 0),(3,SV.junk 3),(4,.ptr 100001 0),
 (5,.ptr 100002 0),(7,SV.junk 7),(8,SV.junk 8),(9,SV.junk 9),(10,SV.junk 10),(11,SV.junk 11),
 (12,SV.junk 12),(13,SV.junk 13),(14,SV.junk 14),(15,SV.junk 15),
 (16,SV.fn 100 [] [.ptr 100003 0,.ptr 100004 0]),(18,SV.junk 18),
 (22,.agg [.dat ha,.dat hb,.dat hc,.dat i,.dat o]),(23,.dat a),
 (24,SV.fn 100 [] [.ptr 5 0,.ptr 6 0]),(25,SV.junk 25),(26,SV.junk 26),(27,SV.junk 27),
 (28,SV.junk 28),(29,SV.junk 29),(30,SV.junk 30),(31,SV.junk 31),(32,SV.junk 32),(33,SV.junk 33),
 (34,SV.junk 34),(35,SV.junk 35),(36,SV.junk 36),(37,SV.junk 37),(38,SV.junk 38),(39,SV.junk 39),
 (40,SV.junk 40),(41,SV.junk 41),(42,SV.junk 42),(43,SV.junk 43),(44,SV.junk 44),(45,SV.junk 45),
 (46,SV.junk 46)]
 0 47))
 []
 [(5,OBlk.cells 22 [.dat a]),(6,OBlk.cells 121 [.dat ha,.dat hb,.dat hc,.dat i,.dat o]),
 (100000,OBlk.cells 121 [.dat ha,.dat hb,.dat hc,.dat i,.dat o]),
 (100001,OBlk.cells 4 [.lb false]),(100002,OBlk.cells 87 [.vec 100005]),(100003,OBlk.cells 22 [.dat a]),
 (100004,OBlk.cells 121 [.dat ha,.dat hb,.dat hc,.dat i,.dat o]),(100005,OBlk.arr 4 q)]) := by kernel_rfl

end
end Go.Proofs.Ytodhhmjilnfecaa
end
section
open Go Go.Proofs Sx
namespace Go.Proofs.Ytodhhmjilnfecaa
set_option maxRecDepth 100000
set_option maxHeartbeats 0
noncomputable def cmK : List Item := [Item.inBlock 2,Item.code (cAt Try.prog 70 [1,1,1,1])]
noncomputable def cmT (ha hb hc i o a : D) : List SV := mkU [(0,SV.junk 0),(1,.dat a),(2,.ptr 100000 0),(3,SV.junk 3),(4,.ptr 100001 0),(5,.ptr 100002 0),(7,SV.junk 7),(8,SV.junk 8),(9,SV.junk 9),(10,SV.junk 10),(11,SV.junk 11),(12,SV.junk 12),(13,SV.junk 13),(14,SV.junk 14),(15,SV.junk 15),(16,SV.fn 100 [] [.ptr 100003 0,.ptr 100004 0]),(18,SV.junk 18),(22,.agg [.dat ha,.dat hb,.dat hc,.dat i,.dat o]),(23,.dat a),(24,SV.fn 100 [] [.ptr 200005 0,.ptr 200006 0]),(25,SV.junk 25),(26,SV.junk 26),(27,SV.junk 27),(28,SV.junk 28),(29,SV.junk 29),(30,SV.junk 30),(31,SV.junk 31),(32,SV.junk 32),(33,SV.junk 33),(34,SV.junk 34),(35,SV.junk 35),(36,SV.junk 36),(37,SV.junk 37),(38,SV.junk 38),(39,SV.junk 39),(40,SV.junk 40),(41,SV.junk 41),(42,SV.junk 42),(43,SV.junk 43),(44,SV.junk 44),(45,SV.junk 45),(46,SV.junk 46)] 0 47
noncomputable def cmM (ha hb hc i o a q : D) : Mem := (200005,OBlk.cells 22 [.dat a]) :: (200006,OBlk.cells 121 [.dat ha,.dat hb,.dat hc,.dat i,.dat o]) :: [(100000,OBlk.cells 121 [.dat ha,.dat hb,.dat hc,.dat i,.dat o]),(100001,OBlk.cells 4 [.lb false]),(100002,OBlk.cells 87 [.vec 100005]),(100003,OBlk.cells 22 [.dat a]),(100004,OBlk.cells 121 [.dat ha,.dat hb,.dat hc,.dat i,.dat o]),(100005,OBlk.arr 4 q)]
noncomputable def cmR (ha hb hc i o a : D) (z : Int) : List SV := ((cmT ha hb hc i o a).set 25 (.int .i64 z)).set 26 (wvH hb z)
section
variable (ha hb hc i o a q : D) (z : Int)
theorem cma_go : execP Try.prog [] 100 ⟨⟨70,none,none,[.code (cAt Try.prog 70 [1,1,1,0,1,0,0])],cmR ha hb hc i o a z⟩,[],cmM ha hb hc i o a q⟩ =
 Tree.leaf
 (Conf.mk
 (SFrm.mk 70 none none []
 (mkU
 [(0,SV.junk 0),(1,.dat a),(2,.ptr 100000 0),(3,SV.junk 3),(4,.ptr 100001 0),
 (5,.ptr 100002 0),(7,.int .i64 z),(8,SV.junk 8),(9,SV.junk 9),(10,SV.junk 10),
 (11,SV.junk 11),(12,SV.junk 12),(13,SV.junk 13),(14,SV.junk 14),(15,SV.junk 15),
 (16,SV.fn 100 [] [.ptr 100003 0,.ptr 100004 0]),(18,SV.junk 18),
 (22,.agg [.dat ha,.dat hb,.dat hc,.dat i,.dat o]),(23,.dat a),
 (24,SV.fn 100 [] [.ptr 200005 0,.ptr 200006 0]),(25,.int .i64 z),
 (26,
 .agg
 [.int .i64 (D.getInt hb (Int.toNat z) 0),.int .i64 (D.getInt hb (Int.toNat z) 1),
 .dat (D.cell hb (Int.toNat z) 2)]),
 (27,SV.junk 27),(28,SV.junk 28),(29,SV.junk 29),(30,SV.junk 30),(31,SV.junk 31),(32,SV.junk 32),
 (33,SV.junk 33),(34,SV.junk 34),(35,SV.junk 35),(36,SV.junk 36),(37,SV.junk 37),(38,SV.junk 38),
 (39,SV.junk 39),(40,SV.junk 40),(41,SV.junk 41),(42,SV.junk 42),(43,SV.junk 43),(44,SV.junk 44),
 (45,SV.junk 45),(46,SV.junk 46)]
 0 47))
 []
 [(200005,OBlk.cells 22 [.dat a]),(200006,OBlk.cells 121 [.dat ha,.dat hb,.dat hc,.dat i,.dat o]),
 (100000,OBlk.cells 121 [.dat ha,.dat hb,.dat hc,.dat i,.dat o]),
 (100001,OBlk.cells 4 [.lb false]),(100002,OBlk.cells 87 [.vec 100005]),(100003,OBlk.cells 22 [.dat a]),
 (100004,OBlk.cells 121 [.dat ha,.dat hb,.dat hc,.dat i,.dat o]),(100005,OBlk.arr 4 q)]) := by kernel_rfl

theorem cmb_go : execP Try.prog ctB 100 ⟨⟨70,none,none,[.code (cAt Try.prog 70 [1,1,1,0,1,0,1])],(cmR ha hb hc i o a z).set 7 (.int .i64 z)⟩,[],cmM ha hb hc i o a q⟩ =
 Tree.leaf
 (Conf.mk
 (SFrm.mk 70 none none
 [Item.inLoop (cAt Try.prog 70 [1,1,1,0,1,0,1,0,1,0,0]),Item.inBlock 4,Item.inBlock 3]
 (mkJ 0
 [(2,.ptr 100000 0),(4,.ptr 100001 0),(5,.ptr 100002 0),(7,.int .i64 z),
 (30,.int .i64 (↑(D.len hb) : Int)),(31,.int .i64 0)]
 0 47))
 []
 [(100000,OBlk.cells 121 [.dat ha,.dat hb,.dat hc,.dat i,.dat o]),
 (100001,OBlk.cells 4 [.lb false]),(100002,OBlk.cells 87 [.vec 100005]),(100003,OBlk.cells 22 [.dat a]),
 (100004,OBlk.cells 121 [.dat ha,.dat hb,.dat hc,.dat i,.dat o]),(100005,OBlk.arr 4 q),
 (200005,OBlk.cells 22 [.dat a]),
 (200006,OBlk.cells 121 [.dat ha,.dat hb,.dat hc,.dat i,.dat o])]) := by kernel_rfl

theorem cme_in : execQ Try.prog ctB 300 ⟨⟨70,none,none,cmK,cmT ha hb hc i o a⟩,[],cmM ha hb hc i o a q⟩ =
 Tree.ret (.lb true) := by kernel_rfl

theorem cms_in : execQ Try.prog ctB 300 ⟨⟨70,none,none,.code .ret :: cmK,cmT ha hb hc i o a⟩,[],cmM ha hb hc i o a q⟩ =
 Tree.ret (.lb false) := by kernel_rfl

end
end Go.Proofs.Ytodhhmjilnfecaa
end
section
open Go Go.Proofs Sx
namespace Go.Proofs.Ytodhhmjilnfecaa
set_option maxRecDepth 100000
set_option maxHeartbeats 0
noncomputable def cmL (ha hb hc i o a q : D) (z j : Int) : Conf := Conf.mk (SFrm.mk 70 none none [Item.inLoop (cAt Try.prog 70 [1,1,1,0,1,0,1,0,1,0,0]),Item.inBlock 4,Item.inBlock 3] (mkJ 0 [(2,.ptr 100000 0),(4,.ptr 100001 0),(5,.ptr 100002 0),(7,.int .i64 z),(30,.int .i64 (D.len hb : Int)),(31,.int .i64 j)] 0 47)) [] [(100000,OBlk.cells 121 [.dat ha,.dat hb,.dat hc,.dat i,.dat o]),(100001,OBlk.cells 4 [.lb false]),(100002,OBlk.cells 87 [.vec 100005]),(100003,OBlk.cells 22 [.dat a]),(100004,OBlk.cells 121 [.dat ha,.dat hb,.dat hc,.dat i,.dat o]),(100005,OBlk.arr 4 q),(200005,OBlk.cells 22 [.dat a]),(200006,OBlk.cells 121 [.dat ha,.dat hb,.dat hc,.dat i,.dat o])]
section
variable (ha hb hc i o a q : D) (z j : Int)
theorem cml_go : 
 let z1 : Tree := (.leaf (Conf.mk (SFrm.mk 70 none none [Item.inLoop (cAt Try.prog 70 [1,1,1,0,1,0,1,0,1,0,0]),Item.inBlock 4,Item.inBlock 3] (mkJ 0 [(2,.ptr 100000 0),(4,.ptr 100001 0),(5,.ptr 100002 0),(7,.int .i64 z),(30,.int .i64 (↑(D.len hb) : Int)),(31,.int .i64 (IntKind.wrap .i64 (j + 1)))] 0 47)) [] [(100000,OBlk.cells 121 [.dat ha,.dat hb,.dat hc,.dat i,.dat o]),(100001,OBlk.cells 4 [.lb false]),(100002,OBlk.cells 87 [.vec 100005]),(100003,OBlk.cells 22 [.dat a]),(100004,OBlk.cells 121 [.dat ha,.dat hb,.dat hc,.dat i,.dat o]),(100005,OBlk.arr 4 q),(200005,OBlk.cells 22 [.dat a]),(200006,OBlk.cells 121 [.dat ha,.dat hb,.dat hc,.dat i,.dat o])]))
 execP Try.prog ctB 300 (unroll (cmL ha hb hc i o a q z j)) =
 Tree.br (decide (j < (↑(D.len hb) : Int))) (.need (0 ≤ j ∧ j < (↑(D.len q) : Int) ∧ D.sz q = 1) (.need (D.HasCell q (Int.toNat j) 0 FT.bool ∧ D.sz q = 1) (.br (!D.getBool q (Int.toNat j) 0) (.need (D.Is Int i ∧ D.Is Int o ∧ 0 ≤ j ∧ j <
 (↑(List.length (D.to Int o)) : Int) ∧ 0 ≤ z ∧ z < (↑(List.length (D.to Int i)) : Int)) (.br (beforeT (TlD.tl (TlD.mk i o)) j z) (.leaf (Conf.mk (SFrm.mk 70 none none [Item.code (cAt Try.prog 70 [1,1,1,0,1,0,1,0,1,0,0,1,1,0,0,1,1,0,1]),Item.inBlock 5,Item.code
 (cAt Try.prog 70 [1,1,1,0,1,0,1,0,1,0,0,1,1,1]),Item.inLoop (cAt Try.prog 70 [1,1,1,0,1,0,1,0,1,0,0]),Item.inBlock 4,Item.inBlock 3] (mkJ 0 [(2,.ptr 100000 0),(4,.ptr 100001 0),
 (5,.ptr 100002 0),(7,.int .i64 z),(8,.int .i64 j),(30,.int .i64 (↑(D.len hb) : Int)),(31,.int .i64 j),(32,.bool (decide (j < (↑(D.len hb) : Int)))),(33,.int .i64 j),(34,.vec 100005),(35,.int .i64 j),
 (36,SV.velt 100005 1 (Int.toNat j) 0),(37,.bool (D.getBool q (Int.toNat j) 0)),(38,.bool !D.getBool q (Int.toNat j) 0),(39,.lb true),(40,.ptr 100000 3),(41,.agg [.dat i,.dat o]),(42,.int .i64 j),
 (43,.int .i64 z),(44,.bool (beforeT (TlD.tl (TlD.mk i o)) j z)),(45,.bool (beforeT (TlD.tl (TlD.mk i o)) j z))] 0 47)) [] [(100000,OBlk.cells 121 [.dat ha,.dat hb,.dat hc,.dat i,.dat o]),(100001,OBlk.cells 4 [.lb false]),
 (100002,OBlk.cells 87 [.vec 100005]),(100003,OBlk.cells 22 [.dat a]),(100004,OBlk.cells 121 [.dat ha,.dat hb,.dat hc,.dat i,.dat o]),(100005,OBlk.arr 4 q),(200005,OBlk.cells 22 [.dat a]),
 (200006,OBlk.cells 121 [.dat ha,.dat hb,.dat hc,.dat i,.dat o])])) z1)) z1))) (.leaf (Conf.mk (SFrm.mk 70 none none [] (mkJ 0 [(2,.ptr 100000 0),(4,.ptr 100001 0),(5,.ptr 100002 0),(7,.int .i64 z),
 (30,.int .i64 (↑(D.len hb) : Int)),(31,.int .i64 j),(32,.bool (decide (j < (↑(D.len hb) : Int))))] 0 47)) [] [(100000,OBlk.cells 121 [.dat ha,.dat hb,.dat hc,.dat i,.dat o]),(100001,OBlk.cells 4 [.lb false]),
 (100002,OBlk.cells 87 [.vec 100005]),(100003,OBlk.cells 22 [.dat a]),(100004,OBlk.cells 121 [.dat ha,.dat hb,.dat hc,.dat i,.dat o]),(100005,OBlk.arr 4 q),(200005,OBlk.cells 22 [.dat a]),
 (200006,OBlk.cells 121 [.dat ha,.dat hb,.dat hc,.dat i,.dat o])])) := by
 intros; kernel_rfl

theorem clF1 : cAt Try.prog 70 [1,1,0,1,0] = .rangeFunc (.tmp 16) #[17,18] (cAt Try.prog 70 [1,1,0,1,0,0]) (cAt Try.prog 70 [1,1,0,1,0,1]) := by kernel_rfl
theorem clF2 : cAt Try.prog 70 [1,1,1,0,1,0] = .rangeFunc (.tmp 24) #[25,26] (cAt Try.prog 70 [1,1,1,0,1,0,0]) (cAt Try.prog 70 [1,1,1,0,1,0,1]) := by kernel_rfl
end
end Go.Proofs.Ytodhhmjilnfecaa
end
section
open Go Go.Proofs Sx
namespace Go.Proofs.Ytodhhmjilnfecaa
set_option maxRecDepth 100000

theorem ctBOk : Ctrs.Ok Try.prog ctB := by
 intro x hx
 simp only [ctB,List.mem_cons,List.not_mem_nil,or_false] at hx
 rcases hx with rfl
 exact ctrOf_ok lawBefT

section
variable {H : HV} {w : World} {ha hb hc i o a : D} (rw' : hb.Is Wt) (ri : i.Is Int) (ro : o.Is Int) (ra : a.Is Int) (lw : hb.len ≤ 1048576) (la : a.len ≤ 1048576)
 (li : (i.to Int).length = (hb.to Wt).length) (lo : (o.to Int).length = (hb.to Wt).length) (hset : setH (a.to Int) (hb.to Wt).length = true)
include rw' ri ro ra lw la li lo hset

theorem cl_in_set : ∀ j,j < a.len → 0 ≤ a.getInt (Int.toNat (j : Int)) 0 ∧ a.getInt (Int.toNat (j : Int)) 0 < (hb.len : Int) := fun j hj=>by
 have hj' : j < (a.to Int).length := by rw [← D.Is.length (α := Int)]; exact hj
 have := setH_in hset hj'
 rw [(int_at ra hj').2.2,D.Is.length (α := Wt) hb]
 exact this
theorem cm_inner {C1 : Ctx} (hrd : C1.x.rd = true) {q : D} (hq : q.Is Bool) (hqs : q.sz = 1 ∨ q.len = 0) (hqt : q.to Bool = inL (hb.to Wt).length (a.to Int)) {j : Nat} (hj : j < (a.to Int).length)
  {Φ : Bool → List SV → Mem → Prop} (h1 : rowOk ⟨i.to Int,o.to Int⟩ (hb.to Wt).length (a.to Int) (a.to Int)[j] = true → ∀ T,∀ m,(cmM ha hb hc i o a q).Perm m → Φ true T m)
  (h2 : rowOk ⟨i.to Int,o.to Int⟩ (hb.to Wt).length (a.to Int) (a.to Int)[j] = false → ∀ T,∀ m,(cmM ha hb hc i o a q).Perm m → Φ false T m) :
  Runs Try.prog C1 (cmL ha hb hc i o a q (a.to Int)[j] 0) (EndR C1 Φ) := by
 have bl := D.Is.length (α := Wt) hb
 have ql := D.Is.length (α := Bool) q
 rw [hqt,inL_len] at ql
 have hz := setH_in hset hj
 have hperm : (cmM ha hb hc i o a q).Perm [(100000,OBlk.cells 121 [SV.dat ha,SV.dat hb,SV.dat hc,SV.dat i,SV.dat o]),(100001,OBlk.cells 4 [SV.lb false]),(100002,OBlk.cells 87 [SV.vec 100005]),(100003,OBlk.cells 22 [SV.dat a]),(100004,OBlk.cells 121 [SV.dat ha,SV.dat hb,SV.dat hc,SV.dat i,SV.dat o]),(100005,OBlk.arr 4 q),(200005,OBlk.cells 22 [SV.dat a]),(200006,OBlk.cells 121 [SV.dat ha,SV.dat hb,SV.dat hc,SV.dat i,SV.dat o])] :=
  List.perm_append_comm (l₁ := [(200005,OBlk.cells 22 [SV.dat a]),(200006,OBlk.cells 121 [SV.dat ha,SV.dat hb,SV.dat hc,SV.dat i,SV.dat o])])
 refine runs_loop (fun k : Nat=>cmL ha hb hc i o a q (a.to Int)[j] k) (fun k=>k ≤ (hb.to Wt).length ∧ ∀ x : Nat,x < k → ((a.to Int).contains (x : Int) || !beforeT ⟨i.to Int,o.to Int⟩ x (a.to Int)[j]) = true) (fun k=>(hb.to Wt).length - k) (fun _=>rfl) ?_ 0 ⟨Nat.zero_le _,fun x hx=>absurd hx (Nat.not_lt_zero _)⟩
 intro k ⟨hk,hpre⟩ ih
 apply execP_sound ctBOk 300
 rw [cml_go]
 refine ⟨fun hck=>?_,fun hck=>?_⟩
 ·have hck : k < (hb.to Wt).length := by have := of_decide_eq_true hck; omega
  have hkq : k < (q.to Bool).length := by rw [hqt,inL_len]; exact hck
  obtain ⟨b1,b2⟩ := bool_cell hq hkq
  have hqv : (q.to Bool)[k] = (a.to Int).contains (k : Int) := by simp only [hqt]; exact inL_get _
  rw [hqv] at b1
  have hsz := hq.size hkq
  have hsz1 : q.sz = 1 := hsz
  have gb : q.getBool (Int.toNat (k : Int)) 0 = (a.to Int).contains (k : Int) := b1
  have nxt : ((a.to Int).contains (k : Int) || !beforeT ⟨i.to Int,o.to Int⟩ k (a.to Int)[j]) = true → Runs Try.prog C1 (cmL ha hb hc i o a q (a.to Int)[j] (IntKind.i64.wrap ((k : Int) + 1))) (EndR C1 Φ) := fun h=>by
   have := ih (k + 1) ⟨hck,fun x hx=>by
    by_cases e : x = k
    ·subst e; exact h
    ·exact hpre x (by omega)⟩ (by omega)
   rw [← wrap_succ hck (by omega)] at this
   exact this
  rw [gb]
  refine ⟨⟨by omega,by omega,hsz1⟩,⟨b2,hsz1⟩,fun hn=>⟨⟨ri,ro,by omega,by omega,hz.1,by omega⟩,fun hbf=>?_,fun hbf=>?_⟩,fun hn=>?_⟩
  ·have hn : (a.to Int).contains (k : Int) = false := by simpa using hn
   have hbf : beforeT ⟨i.to Int,o.to Int⟩ k (a.to Int)[j] = true := hbf
   refine end_ret hrd (h2 ?_ _ _ hperm)
   unfold rowOk
   rw [List.all_eq_false]
   exact ⟨k,List.mem_range.2 hck,by simp only [hn,hbf]; decide⟩
  ·have hbf : beforeT ⟨i.to Int,o.to Int⟩ k (a.to Int)[j] = false := hbf
   exact nxt (by rw [hbf]; simp)
  ·have hn : (a.to Int).contains (k : Int) = true := by simpa using hn
   exact nxt (by rw [hn]; simp)
 ·have : k = (hb.to Wt).length := by have := of_decide_eq_false hck; omega
  subst this
  refine end_here hrd (h1 ?_ _ _ hperm)
  unfold rowOk
  rw [List.all_eq_true]
  exact fun x hx=>hpre x (List.mem_range.1 hx)
theorem cm_runs {Dm : Nat} {q : D} (hq : q.Is Bool) (hqs : q.sz = 1 ∨ q.len = 0) (hqt : q.to Bool = inL (hb.to Wt).length (a.to Int)) :
  Runs Try.prog ((⟨w,H⟩ : Ctx).marked Dm) ⟨⟨70,none,none,clK,clT a⟩,[],clM ha hb hc i o a q⟩ (RetS w H (.bool (closedT ⟨i.to Int,o.to Int⟩ (hb.to Wt).length (a.to Int)))) := by
 have al := D.Is.length (α := Int) a
 apply execQ_sound ctBOk 300
 rw [clq_in]
 refine pin_to 200000 ⟨⟨70,none,none,Item.code (cAt Try.prog 70 [1,1,1,0,1,0]) :: cmK,cmT ha hb hc i o a⟩,[],(200005,OBlk.cells 22 [SV.dat a]) :: (200006,OBlk.cells 121 [SV.dat ha,SV.dat hb,SV.dat hc,SV.dat i,SV.dat o]) :: [(100000,OBlk.cells 121 [SV.dat ha,SV.dat hb,SV.dat hc,SV.dat i,SV.dat o]),(100001,OBlk.cells 4 [SV.lb false]),(100002,OBlk.cells 87 [SV.vec 100005]),(100003,OBlk.cells 22 [SV.dat a]),(100004,OBlk.cells 121 [SV.dat ha,SV.dat hb,SV.dat hc,SV.dat i,SV.dat o]),(100005,OBlk.arr 4 q)]⟩ (by kernel_rfl) ?_ rfl
 rw [clF2]
 refine runs_range icode (mm := fun _ : Unit=>cmM ha hb hc i o a q) (Inv := fun j _=>∀ k,(hk : k < (a.to Int).length) → k < j → rowOk ⟨i.to Int,o.to Int⟩ (hb.to Wt).length (a.to Int) (a.to Int)[k] = true) (Stop := fun _=>closedT ⟨i.to Int,o.to Int⟩ (hb.to Wt).length (a.to Int) = false)
  (c2W (fun _ : Unit=>[(100000,OBlk.cells 121 [SV.dat ha,SV.dat hb,SV.dat hc,SV.dat i,SV.dat o]),(100001,OBlk.cells 4 [SV.lb false]),(100002,OBlk.cells 87 [SV.vec 100005]),(100003,OBlk.cells 22 [SV.dat a]),(100004,OBlk.cells 121 [SV.dat ha,SV.dat hb,SV.dat hc,SV.dat i,SV.dat o]),(100005,OBlk.arr 4 q)]) _ ra rw' la (cl_in_set rw' ri ro ra lw la li lo hset))
  () (fun k _ h=>absurd h (Nat.not_lt_zero _)) rfl rfl rfl rfl rfl rfl (fun _=>rfl) (fun j=>(cmR ha hb hc i o a (a.getInt (Int.toNat (j : Int)) 0)).set 7 (.int .i64 (a.getInt (Int.toNat (j : Int)) 0))) (fun _ _=>cmM ha hb hc i o a q) ?_ ?_ ?_ ?_
 ·intro C1 s j hrd hj hi
  apply execP_sound (noCtr _) 100
  refine holds_of (cma_go ha hb hc i o a q (a.getInt (Int.toNat (j : Int)) 0)) ?_
  exact end_here hrd ⟨rfl,rfl,rfl⟩
 ·intro C1 s j hrd hj hi
  have hj' : j < (a.to Int).length := by omega
  have hz := (int_at ra hj').2.2
  apply execP_sound ctBOk 100
  rw [cmb_go]
  rw [hz]
  refine cm_inner rw' ri ro ra lw la li lo hset hrd hq hqs hqt hj' (fun h T m hp=>⟨fun _=>⟨(),MemTo.perm hp,fun k hk hkj=>?_⟩,(fun h=>by cases h)⟩) (fun h T m hp=>⟨(fun h=>by cases h),fun _=>⟨(),MemTo.perm hp,?_⟩⟩)
  ·by_cases e : k = j
   ·subst e; exact h
   ·exact hi k hk (by omega)
  ·show closedT _ _ _ = false
   unfold closedT
   rw [List.all_eq_false]
   exact ⟨_,List.getElem_mem hj',by rw [h]; decide⟩
 ·intro D2 s hi
  apply execQ_sound ctBOk 300
  rw [cme_in]
  refine ret_marked (ret_marked (ret_lb (.symm ?_)))
  unfold closedT
  rw [List.all_eq_true]
  intro b hb'
  obtain ⟨k,hk,rfl⟩ := List.getElem_of_mem hb'
  exact hi k hk (by omega)
 ·intro D2 s hs
  apply execQ_sound ctBOk 300
  rw [cms_in]
  exact ret_marked (ret_marked (ret_lb (.symm hs)))
end

theorem lawIsCl : Law Try.prog 70 ((rdCk.two rdD).sp spIsCl) := by
 refine law_in _ (by kernel_rfl) fun H w ⟨⟨ha,hb,hc,i,o⟩,a⟩ hok hp=>?_
 obtain ⟨rw',ri,ro,ra,lw,la,li,lo,hset⟩ := hp _ (List.mem_singleton.2 rfl)
 simp only at rw' ri ro ra lw la li lo hset
 have al := D.Is.length (α := Int) a
 have bl := D.Is.length (α := Wt) hb
 apply execQ_sound ctBOk 300
 rw [show (rdCk.two rdD).canon (⟨ha,hb,hc,i,o⟩,a) = [.agg [.dat ha,.dat hb,.dat hc,.dat i,.dat o],.dat a] from rfl,icl_in]
 refine ⟨⟨by omega,rfl,by omega,by omega⟩,fun hs=>?_⟩
 refine pin_to 100000 ⟨⟨70,none,none,Item.code (cAt Try.prog 70 [1,1,0,1,0]) :: clK,clT a⟩,[],[(100000,OBlk.cells 121 [SV.dat ha,SV.dat hb,SV.dat hc,SV.dat i,SV.dat o]),(100001,OBlk.cells 4 [SV.lb false]),(100002,OBlk.cells 87 [SV.vec 100005]),(100003,OBlk.cells 22 [SV.dat a]),(100004,OBlk.cells 121 [SV.dat ha,SV.dat hb,SV.dat hc,SV.dat i,SV.dat o]),(100005,OBlk.arr 4 (D.slc (D.hd (hs 0 0)) 1 (List.replicate (Int.toNat (D.len hb : Int)) [D.bool false])))]⟩ (by kernel_rfl) ?_ rfl
 have hq0 : (D.slc (D.hd (hs 0 0)) 1 (List.replicate (Int.toNat (D.len hb : Int)) [D.bool false])).Is Bool ∧ (D.slc (D.hd (hs 0 0)) 1 (List.replicate (Int.toNat (D.len hb : Int)) [D.bool false])).to Bool = List.replicate (hb.to Wt).length false :=
  is_of rfl ⟨fun r hr=>by rw [List.eq_of_mem_replicate hr]; exact ok_bool false,by simp [bl]⟩
 generalize D.slc (D.hd (hs 0 0)) 1 (List.replicate (Int.toNat (D.len hb : Int)) [D.bool false]) = q0 at hq0
 refine runs_perm (clM ha hb hc i o a q0) ?_ ?_
 ·exact (perm_front [(100000,OBlk.cells 121 [SV.dat ha,SV.dat hb,SV.dat hc,SV.dat i,SV.dat o]),(100001,OBlk.cells 4 [SV.lb false]),(100002,OBlk.cells 87 [SV.vec 100005])] [(100003,OBlk.cells 22 [SV.dat a]),(100004,OBlk.cells 121 [SV.dat ha,SV.dat hb,SV.dat hc,SV.dat i,SV.dat o])] [(100005,OBlk.arr 4 q0)])
 rw [clF1]
 refine runs_range icode (mm := fun q : D=>clM ha hb hc i o a q) (Inv := fun j q=>q.Is Bool ∧ q.to Bool = inL (hb.to Wt).length ((a.to Int).take j)) (Stop := fun _=>False)
  (c1W (fun q : D=>[(100000,OBlk.cells 121 [SV.dat ha,SV.dat hb,SV.dat hc,SV.dat i,SV.dat o]),(100001,OBlk.cells 4 [SV.lb false]),(100002,OBlk.cells 87 [SV.vec 100005]),(100005,OBlk.arr 4 q)]) _ ra rw' la (cl_in_set rw' ri ro ra lw la li lo hset))
  q0 ⟨hq0.1,by rw [hq0.2,List.take_zero,inL_nil]⟩ rfl rfl rfl rfl rfl rfl (fun _=>rfl) (fun j=>(clR hb a (a.getInt (Int.toNat (j : Int)) 0)).set 6 (.int .i64 (a.getInt (Int.toNat (j : Int)) 0))) (fun _ q=>clM ha hb hc i o a q) ?_ ?_ ?_ ?_
 ·intro C1 q j hrd hj hi
  apply execP_sound (noCtr _) 100
  refine holds_of (cla_go ha hb hc i o a q (a.getInt (Int.toNat (j : Int)) 0)) ?_
  exact end_here hrd ⟨rfl,rfl,rfl⟩
 ·intro C1 q j hrd hj ⟨hq,hqt⟩
  have hj' : j < (a.to Int).length := by omega
  have hz := (int_at ra hj').2.2
  have hzr := setH_in hset hj'
  apply execP_sound (noCtr _) 100
  rw [clb_go]
  rw [hz]
  obtain ⟨z,hzz⟩ := Int.eq_ofNat_of_zero_le hzr.1
  have ql := D.Is.length (α := Bool) q
  rw [hqt,inL_len] at ql
  have hzq : z < (q.to Bool).length := by rw [hqt,inL_len]; omega
  have hsz : q.sz = 1 := hq.size hzq
  obtain ⟨s1,s2⟩ := set_full hq hzq (xs := [D.bool true]) rfl (ok_bool true) rfl
  rw [hzz]
  refine ⟨⟨by omega,by omega,hsz⟩,⟨by simp only [Int.toNat_natCast]; omega,by omega,hsz⟩,end_here hrd ⟨fun _=>⟨_,MemTo.refl _,s1,?_⟩,fun h=>by cases h⟩⟩
  refine s2.trans ?_
  rw [hqt,List.take_succ_eq_append_getElem hj',hzz,inL_snoc]
  rfl
 ·intro D2 q ⟨hq,hqt⟩
  refine cm_runs rw' ri ro ra lw la li lo hset hq ?_ (by rw [hqt,al,List.take_length])
  rcases Nat.eq_zero_or_pos q.len with h | h
  ·exact .inr h
  ·exact .inl (hq.size (i := 0) (by rw [← D.Is.length (α := Bool)]; exact h))
 ·exact fun _ _ h=>h.elim
end Go.Proofs.Ytodhhmjilnfecaa
end
section
open Go Go.Proofs Sx
namespace Go.Proofs.Ytodhhmjilnfecaa
set_option maxRecDepth 100000
set_option maxHeartbeats 0
noncomputable def ctN : Ctrs := [(68,ctrOf (rdHi.one.sp spCk)),(69,ctrOf ((rdCk.two rdD).sp spIsSet)),(70,ctrOf ((rdCk.two rdD).sp spIsCl)),(96,ctrOf ((rdTl.three rdInt rdInt).sp spBefT))]
noncomputable def ctNR : Ctrs := [(65,ctrOf (rdHi.one.sp spCkI)),(86,ctrOf ((rdD.two rdEv).sp spAt)),(85,ctrOf (rdInt.one.sp spIssE)),(87,ctrOf (rdInt.one.sp spAckE)),(47,ctrOf ((rdD.two rdInt).sp spHas)),(66,ctrOf ((rdD.two rdInt).sp spSet))]
section
variable (n j k : Int) (ha hb hc a : D)
theorem cls_in : exec Try.prog ctN 300 (entry Try.prog 33 [.agg [.dat ha,.dat hb,.dat hc],.dat a]) =
 Tree.need (HiD.Right (HiD.mk ha hb hc))
 (.all fun hs =>
 .br (decide (Prod.fst (checkH (HiD.hist (HiD.mk ha hb hc))) = 0))
 (.need (D.Is Int a ∧ D.len a ≤ 1048576 ∧ D.Is Wt (onOk (Prod.fst (checkH (HiD.hist (HiD.mk ha hb hc)))) hb))
 (.br
 (setH (D.to Int a)
 (↑(List.length (D.to Wt (onOk (Prod.fst (checkH (HiD.hist (HiD.mk ha hb hc)))) hb))) : Int))
 (.need
 (D.Is Wt (onOk (Prod.fst (checkH (HiD.hist (HiD.mk ha hb hc)))) hb) ∧
 D.Is Int (D.like (hs 0 0) (Tl.issued (Prod.snd (checkH (HiD.hist (HiD.mk ha hb hc)))))) ∧
 D.Is Int (D.like (hs 0 1) (Tl.acked (Prod.snd (checkH (HiD.hist (HiD.mk ha hb hc)))))) ∧
 D.Is Int a ∧
 D.len (onOk (Prod.fst (checkH (HiD.hist (HiD.mk ha hb hc)))) hb) ≤ 1048576 ∧
 D.len a ≤ 1048576 ∧
 List.length
 (D.to Int
 (D.like (hs 0 0) (Tl.issued (Prod.snd (checkH (HiD.hist (HiD.mk ha hb hc))))))) =
 List.length (D.to Wt (onOk (Prod.fst (checkH (HiD.hist (HiD.mk ha hb hc)))) hb)) ∧
 List.length
 (D.to Int
 (D.like (hs 0 1) (Tl.acked (Prod.snd (checkH (HiD.hist (HiD.mk ha hb hc))))))) =
 List.length (D.to Wt (onOk (Prod.fst (checkH (HiD.hist (HiD.mk ha hb hc)))) hb)) ∧
 setH (D.to Int a)
 (↑(List.length (D.to Wt (onOk (Prod.fst (checkH (HiD.hist (HiD.mk ha hb hc)))) hb))) :
 Int) =
 true)
 (.ret
 (.bool
 (closedT
 (Tl.mk (D.to Int (D.like (hs 0 0) (Tl.issued (Prod.snd (checkH (HiD.hist (HiD.mk ha hb hc)))))))
 (D.to Int (D.like (hs 0 1) (Tl.acked (Prod.snd (checkH (HiD.hist (HiD.mk ha hb hc))))))))
 (List.length (D.to Wt (onOk (Prod.fst (checkH (HiD.hist (HiD.mk ha hb hc)))) hb))) (D.to Int a)))))
 (.ret (.lb false))))
 (.ret (.lb false))) := by kernel_rfl

theorem rbf_in : exec Try.prog ctNR 300 (entry Try.prog 108 [.agg [.dat ha,.dat hb,.dat hc],.int .i64 n,.int .i64 k]) =
 Tree.all fun hs =>
 .need (D.Is Ev hc ∧ D.len hc ≤ 1048576)
 (.need (D.Is Ev hc ∧ D.len hc ≤ 1048576)
 (.br (decide (atEv (D.to Ev hc) (EvD.ev (EvD.mk 1 n)) ≥ 0))
 (.ret
 (.bool (decide (atEv (D.to Ev hc) (EvD.ev (EvD.mk 1 n)) < atEv (D.to Ev hc) (EvD.ev (EvD.mk 0 k))))))
 (.ret (.lb false)))) := by kernel_rfl

theorem rcl_in : exec Try.prog ctNR 300 (entry Try.prog 92 [.agg [.dat ha,.dat hb,.dat hc],.dat a]) =
 Tree.leaf
 (Conf.mk
 (SFrm.mk 92 none none
 [Item.inLoop (cAt Try.prog 92 [1,0,1,0,0]),Item.inBlock 0,Item.code (cAt Try.prog 92 [1,1])]
 (mkJ 0 [(1,.dat a),(2,.ptr 0 0),(5,.int .i64 0)] 0 33))
 [] [(0,OBlk.cells 26 [.dat ha,.dat hb,.dat hc])]) := by kernel_rfl

theorem fst_in : exec Try.prog ctNR 300 (entry Try.prog 34 [.int .i64 n]) =
 Tree.leaf
 (Conf.mk
 (SFrm.mk 34 none none
 [Item.inLoop (cAt Try.prog 34 [1,1,0,1,0,0]),Item.inBlock 0,Item.code (cAt Try.prog 34 [1,1,1])]
 (mkJ 0 [(0,.int .i64 n),(3,.nils),(4,.int .i64 0)] 0 15))
 [] []) := by kernel_rfl

end
end Go.Proofs.Ytodhhmjilnfecaa
end
section
open Go Go.Proofs Sx
namespace Go.Proofs.Ytodhhmjilnfecaa
set_option maxRecDepth 100000
set_option maxHeartbeats 0
noncomputable def fstL (q : D) (n j : Int) : Conf := Conf.mk (SFrm.mk 34 none none [Item.inLoop (cAt Try.prog 34 [1,1,0,1,0,0]),Item.inBlock 0,Item.code (cAt Try.prog 34 [1,1,1])] (mkJ 0 [(0,.int .i64 n),(3,.vec 0),(4,.int .i64 j)] 0 15)) [] [(0,.arr 3 q)]
noncomputable def rclL (ha hb hc a : D) (j : Int) : Conf := Conf.mk (SFrm.mk 92 none none [Item.inLoop (cAt Try.prog 92 [1,0,1,0,0]),Item.inBlock 0,Item.code (cAt Try.prog 92 [1,1])] (mkJ 0 [(1,.dat a),(2,.ptr 0 0),(5,.int .i64 j)] 0 33)) [] [(0,OBlk.cells 26 [.dat ha,.dat hb,.dat hc])]
noncomputable def ctNS : Ctrs := (108,ctrOf ((rdHi.three rdInt rdInt).sp spBefR)) :: ctNR
section
variable (n j k m : Int) (ha hb hc a t q : D)
theorem fstL_go : exec Try.prog [] 300 (unroll (fstL q n j)) =
 Tree.br (decide (j < n))
 (.all fun hs =>
 .need
 (D.sz q = 1 ∧
 D.Fits (D.slc (D.hd (hs 0 0)) 1 [[D.int .i64 j]]) 1 ∧
 (D.len q + D.len (D.slc (D.hd (hs 0 0)) 1 [[D.int .i64 j]])) * 8 ≤ 140737488355328 ∧
 D.len q + D.len (D.slc (D.hd (hs 0 0)) 1 [[D.int .i64 j]]) ≤ 9223372036854775807)
 (.all fun hs_1 =>
 .leaf
 (Conf.mk
 (SFrm.mk 34 none none
 [Item.inLoop (cAt Try.prog 34 [1,1,0,1,0,0]),Item.inBlock 0,Item.code (cAt Try.prog 34 [1,1,1])]
 (mkJ 0
 [(0,.int .i64 n),(3,.vec 0),(4,.int .i64 (IntKind.wrap .i64 (j + 1)))] 0
 15))
 []
 [(0,
 OBlk.arr 3
 (D.slc (D.hd (hs_1 0 0)) 1
 (List.append (D.rows q) (D.rows (D.slc (D.hd (hs 0 0)) 1 [[D.int .i64 j]])))))])))
 (.ret (.dat q)) := by kernel_rfl

theorem rclL_go : exec Try.prog ctNS 300 (unroll (rclL ha hb hc a j)) =
 Tree.br (decide (j < (↑(D.len a) : Int)))
 (.leaf
 (Conf.mk
 (SFrm.mk 92 none none
 [Item.inLoop (cAt Try.prog 92 [1,0,1,0,0,1,0,0,1,0,0]),Item.inBlock 2,Item.inBlock 1,
 Item.code (cAt Try.prog 92 [1,0,1,0,0,1,1]),Item.inLoop (cAt Try.prog 92 [1,0,1,0,0]),
 Item.inBlock 0,Item.code (cAt Try.prog 92 [1,1])]
 (mkJ 0 [(1,.dat a),(2,.ptr 0 0),(5,.int .i64 j),(6,.int .i64 0)] 0 33))
 [] [(0,OBlk.cells 26 [.dat ha,.dat hb,.dat hc])]))
 (.ret (.lb true)) := by kernel_rfl

end
end Go.Proofs.Ytodhhmjilnfecaa
end
section
open Go Go.Proofs Sx
namespace Go.Proofs.Ytodhhmjilnfecaa
set_option maxRecDepth 100000
set_option maxHeartbeats 0
noncomputable def rcl2L (ha hb hc a : D) (j k : Int) : Conf := Conf.mk (SFrm.mk 92 none none [Item.inLoop (cAt Try.prog 92 [1,0,1,0,0,1,0,0,1,0,0]),Item.inBlock 2,Item.inBlock 1,Item.code (cAt Try.prog 92 [1,0,1,0,0,1,1]),Item.inLoop (cAt Try.prog 92 [1,0,1,0,0]),Item.inBlock 0,Item.code (cAt Try.prog 92 [1,1])] (mkJ 0 [(1,.dat a),(2,.ptr 0 0),(5,.int .i64 j),(6,.int .i64 k)] 0 33)) [] [(0,OBlk.cells 26 [.dat ha,.dat hb,.dat hc])]
noncomputable def ixiL (d : D) (n : Int) (j : Int) : Conf := Conf.mk (SFrm.mk 44 none none [Item.inLoop (cAt Try.prog 44 [1,0,1,0,0]),Item.inBlock 0,Item.code (cAt Try.prog 44 [1,1])] (mkJ 0 [(0,.dat d),(1,.int .i64 n),(7,.int .i64 d.len),(8,.int .i64 j)] 0 19)) [] []
noncomputable def ctRR : Ctrs := (48,ctrOf (rdHi.one.sp spCopy)) :: (92,ctrOf ((rdHi.two rdD).sp spClR)) :: ctNR
section
variable (n j k m : Int) (ha hb hc a d t q : D)
theorem rcl2L_go : exec Try.prog ctNS 300 (unroll (rcl2L ha hb hc a j k)) =
 Tree.br (decide (k < (↑(D.len hb) : Int)))
 (.all fun hs =>
 .br (beforeR (D.to Ev hc) k (D.getInt a (Int.toNat j) 0))
 (.need (0 ≤ j ∧ j < (↑(D.len a) : Int) ∧ D.sz a = 1)
 (.need (D.HasCell a (Int.toNat j) 0 (FT.int .i64))
 (.need (D.Is Ev hc ∧ D.len hc ≤ 1048576)
 (.need (beforeR (D.to Ev hc) k (D.getInt a (Int.toNat j) 0) = true)
 (.need (beforeR (D.to Ev hc) k (D.getInt a (Int.toNat j) 0) = true)
 (.need (beforeR (D.to Ev hc) k (D.getInt a (Int.toNat j) 0) = true)
 (.need (D.Is Int a ∧ D.len a ≤ 1048576)
 (.need (beforeR (D.to Ev hc) k (D.getInt a (Int.toNat j) 0) = true)
 (.need (beforeR (D.to Ev hc) k (D.getInt a (Int.toNat j) 0) = true)
 (.br (!List.contains (D.to Int a) k) (.ret (.lb false))
 (.leaf
 (Conf.mk
 (SFrm.mk 92 none none
 [Item.inLoop (cAt Try.prog 92 [1,0,1,0,0,1,0,0,1,0,0]),Item.inBlock 2,
 Item.inBlock 1,Item.code (cAt Try.prog 92 [1,0,1,0,0,1,1]),
 Item.inLoop (cAt Try.prog 92 [1,0,1,0,0]),Item.inBlock 0,
 Item.code (cAt Try.prog 92 [1,1])]
 (mkJ 0
 [(1,.dat a),(2,.ptr 0 0),(5,.int .i64 j),
 (6,.int .i64 (IntKind.wrap .i64 (k + 1)))]
 0 33))
 [] [(0,OBlk.cells 26 [.dat ha,.dat hb,.dat hc])]))))))))))))
 (.need (0 ≤ j ∧ j < (↑(D.len a) : Int) ∧ D.sz a = 1)
 (.need (D.HasCell a (Int.toNat j) 0 (FT.int .i64))
 (.need (D.Is Ev hc ∧ D.len hc ≤ 1048576)
 (.need (beforeR (D.to Ev hc) k (D.getInt a (Int.toNat j) 0) = false)
 (.need (beforeR (D.to Ev hc) k (D.getInt a (Int.toNat j) 0) = false)
 (.need (beforeR (D.to Ev hc) k (D.getInt a (Int.toNat j) 0) = false)
 (.need (beforeR (D.to Ev hc) k (D.getInt a (Int.toNat j) 0) = false)
 (.need (beforeR (D.to Ev hc) k (D.getInt a (Int.toNat j) 0) = false)
 (.leaf
 (Conf.mk
 (SFrm.mk 92 none none
 [Item.inLoop (cAt Try.prog 92 [1,0,1,0,0,1,0,0,1,0,0]),Item.inBlock 2,
 Item.inBlock 1,Item.code (cAt Try.prog 92 [1,0,1,0,0,1,1]),
 Item.inLoop (cAt Try.prog 92 [1,0,1,0,0]),Item.inBlock 0,
 Item.code (cAt Try.prog 92 [1,1])]
 (mkJ 0
 [(1,.dat a),(2,.ptr 0 0),(5,.int .i64 j),
 (6,.int .i64 (IntKind.wrap .i64 (k + 1)))]
 0 33))
 [] [(0,OBlk.cells 26 [.dat ha,.dat hb,.dat hc])])))))))))))
 (.leaf
 (Conf.mk
 (SFrm.mk 92 none none
 [Item.inLoop (cAt Try.prog 92 [1,0,1,0,0]),Item.inBlock 0,Item.code (cAt Try.prog 92 [1,1])]
 (mkJ 0 [(1,.dat a),(2,.ptr 0 0),(5,.int .i64 (IntKind.wrap .i64 (j + 1)))] 0 33))
 [] [(0,OBlk.cells 26 [.dat ha,.dat hb,.dat hc])])) := by kernel_rfl

theorem ixi_in : exec Try.prog [] 300 (entry Try.prog 44 [.dat d,.int .i64 n]) =
 Tree.leaf
 (Conf.mk
 (SFrm.mk 44 none none
 [Item.inLoop (cAt Try.prog 44 [1,0,1,0,0]),Item.inBlock 0,Item.code (cAt Try.prog 44 [1,1])]
 (mkJ 0
 [(0,.dat d),(1,.int .i64 n),(7,.int .i64 (↑(D.len d) : Int)),
 (8,.int .i64 0)]
 0 19))
 [] []) := by kernel_rfl

theorem ixiL_go : exec Try.prog [] 300 (unroll (ixiL d n j)) =
 Tree.br (decide (j < (↑(D.len d) : Int)))
 (.need (0 ≤ j ∧ j < (↑(D.len d) : Int) ∧ D.sz d = 1)
 (.need (D.HasCell d (Int.toNat j) 0 (FT.int .i64))
 (.br (decide (n = D.getInt d (Int.toNat j) 0)) (.ret (.int .i64 j))
 (.leaf
 (Conf.mk
 (SFrm.mk 44 none none
 [Item.inLoop (cAt Try.prog 44 [1,0,1,0,0]),Item.inBlock 0,Item.code (cAt Try.prog 44 [1,1])]
 (mkJ 0
 [(0,.dat d),(1,.int .i64 n),(7,.int .i64 (↑(D.len d) : Int)),
 (8,.int .i64 (IntKind.wrap .i64 (j + 1)))]
 0 19))
 [] [])))))
 (.ret (.int .i64 (Int.neg 1))) := by kernel_rfl

theorem rstR_in : exec Try.prog ctRR 400 (entry Try.prog 59 [.agg [.dat ha,.dat hb,.dat hc],.dat a]) =
 Tree.need (HiD.Right (HiD.mk ha hb hc))
 (.br (Prod.fst (checkH (HiD.hist (HiD.mk ha hb hc))) != 0)
 (.ret
 (SV.tup
 [.agg [.nils,.nils,.nils],.int .i64 (Prod.fst (checkH (HiD.hist (HiD.mk ha hb hc))))]))
 (.need (D.Is Int a ∧ D.len a ≤ 1048576)
 (.br (!setH (D.to Int a) (↑(D.len hb) : Int))
 (.ret (SV.tup [.agg [.nils,.nils,.nils],.int .i64 2]))
 (.need (D.Is Ev hc ∧ D.len hc ≤ 1048576 ∧ D.Is Wt hb ∧ D.len hb ≤ 1048576 ∧ D.Is Int a ∧ D.len a ≤ 1048576)
 (.br (!closedS (D.to Ev hc) (List.length (D.to Wt hb)) (D.to Int a))
 (.ret (SV.tup [.agg [.nils,.nils,.nils],.int .i64 27]))
 (.leaf
 (Conf.mk
 (SFrm.mk 59 none none
 [Item.inLoop (cAt Try.prog 59 [1,1,1,1,1,0,1,0,0]),Item.inBlock 0,
 Item.code (cAt Try.prog 59 [1,1,1,1,1,1])]
 (mkJ 0 [(1,.dat a),(2,.ptr 0 0),(4,.ptr 1 0),(7,.ptr 2 0),(8,.int .i64 0)] 0
 90))
 []
 [(0,OBlk.cells 26 [.dat ha,.dat hb,.dat hc]),(1,OBlk.cells 26 [.nils,.nils,.nils]),
 (2,OBlk.cells 26 [.dat ha,.nils,.nils])]))))))) := by kernel_rfl

end
end Go.Proofs.Ytodhhmjilnfecaa
end
section
open Go Go.Proofs Sx
namespace Go.Proofs.Ytodhhmjilnfecaa
set_option maxRecDepth 100000

theorem ctNOk : Ctrs.Ok Try.prog ctN := by
 intro x hx
 simp only [ctN,List.mem_cons,List.not_mem_nil,or_false] at hx
 rcases hx with rfl | rfl | rfl | rfl
 ·exact ctrOf_ok lawCk
 ·exact ctrOf_ok lawIsSet
 ·exact ctrOf_ok lawIsCl
 ·exact ctrOf_ok lawBefT
theorem ctNROk : Ctrs.Ok Try.prog ctNR := by
 intro x hx
 simp only [ctNR,List.mem_cons,List.not_mem_nil,or_false] at hx
 rcases hx with rfl | rfl | rfl | rfl | rfl | rfl
 ·exact ctrOf_ok lawCkR
 ·exact ctrOf_ok lawAt
 ·exact ctrOf_ok lawIssE
 ·exact ctrOf_ok lawAckE
 ·exact ctrOf_ok lawHas
 ·exact ctrOf_ok lawSet

theorem lawIxI : Law Try.prog 44 ((rdD.two rdInt).sp spIxI) := by
 refine law_in _ (by kernel_rfl) fun H w ⟨d,n⟩ hok hp=>?_
 obtain ⟨hd,hlen⟩ := hp _ (List.mem_singleton.2 rfl)
 simp only at hd hlen
 have hl := D.Is.length (α := Int) d
 apply exec_sound (noCtr _) 300
 rw [show (rdD.two rdInt).canon (d,n) = [.dat d,.int .i64 n] from rfl,ixi_in]
 refine runs_loop (fun j : Nat=>ixiL d n j) (fun j=>j ≤ (d.to Int).length ∧ ((d.to Int).take j).findIdx? (fun y=>decide (n = y)) = none) (fun j=>(d.to Int).length - j) (fun _=>rfl) ?_ 0 ⟨Nat.zero_le _,by simp⟩
 intro j ⟨hj,hpre⟩ ih
 apply exec_sound (noCtr _) 300
 rw [ixiL_go]
 refine ⟨fun hc=>?_,fun hc=>ret_int ?_⟩
 ·have hc : j < (d.to Int).length := by have := of_decide_eq_true hc; omega
  obtain ⟨c1,c2,c3⟩ := int_at hd hc
  rw [c3]
  refine ⟨c1,c2,fun h=>ret_int ?_,fun h=>?_⟩
  ·exact (idxG_hit hc hpre h).symm
  ·have := ih (j + 1) ⟨hc,idxG_miss hc hpre h⟩ (by omega)
   rw [← wrap_succ hc (by omega)] at this
   exact this
 ·have : j = (d.to Int).length := by have := of_decide_eq_false hc; omega
  subst this
  exact (idxG_none hpre).symm

theorem lawBefR : Law Try.prog 108 ((rdHi.three rdInt rdInt).sp spBefR) := by
 refine law_in _ (by kernel_rfl) fun H w ⟨⟨ha,hb,hc⟩,n,k⟩ hok hp=>?_
 obtain ⟨rc,lc⟩ := hp _ (List.mem_singleton.2 rfl)
 simp only at rc lc
 apply exec_sound ctNROk 300
 rw [show (rdHi.three rdInt rdInt).canon (⟨ha,hb,hc⟩,n,k) = [.agg [.dat ha,.dat hb,.dat hc],.int .i64 n,.int .i64 k] from rfl,rbf_in]
 refine fun hs=>⟨⟨rc,lc⟩,⟨rc,lc⟩,fun h=>ret_bool ?_,fun h=>ret_lb ?_⟩
 ·have e : decide (atEv (hc.to Ev) ⟨1,n⟩ ≥ 0) = true := h
  show decide (atEv (hc.to Ev) ⟨1,n⟩ < atEv (hc.to Ev) ⟨0,k⟩) = beforeR (hc.to Ev) n k
  unfold beforeR; rw [e]; rfl
 ·have e : decide (atEv (hc.to Ev) ⟨1,n⟩ ≥ 0) = false := h
  show false = beforeR (hc.to Ev) n k
  unfold beforeR; rw [e]; rfl
theorem ctNSOk : Ctrs.Ok Try.prog ctNS := by
 intro x hx
 rcases List.mem_cons.1 hx with rfl | hx
 ·exact ctrOf_ok lawBefR
 ·exact ctNROk x hx

theorem lawClR : Law Try.prog 92 ((rdHi.two rdD).sp spClR) := by
 refine law_in _ (by kernel_rfl) fun H w ⟨⟨ha,hb,hc⟩,a⟩ hok hp=>?_
 obtain ⟨rc,lc,rb,lb,ra,la⟩ := hp _ (List.mem_singleton.2 rfl)
 simp only at rc lc rb lb ra la
 have al := D.Is.length (α := Int) a
 have bl := D.Is.length (α := Wt) hb
 apply exec_sound ctNROk 300
 rw [show (rdHi.two rdD).canon (⟨ha,hb,hc⟩,a) = [.agg [.dat ha,.dat hb,.dat hc],.dat a] from rfl,rcl_in]
 refine runs_loop (fun j : Nat=>rclL ha hb hc a j) (fun j=>j ≤ (a.to Int).length ∧ ∀ x,(hx : x < (a.to Int).length) → x < j → rowOkR (hc.to Ev) (hb.to Wt).length (a.to Int) (a.to Int)[x] = true) (fun j=>(a.to Int).length - j) (fun _=>rfl) ?_ 0 ⟨Nat.zero_le _,fun x _ h=>absurd h (Nat.not_lt_zero _)⟩
 intro j ⟨hj,hpre⟩ ih
 apply exec_sound ctNSOk 300
 rw [rclL_go]
 refine ⟨fun hcj=>?_,fun hcj=>?_⟩
 ·have hcj : j < (a.to Int).length := by have := of_decide_eq_true hcj; omega
  obtain ⟨c1,c2,c3⟩ := int_at ra hcj
  refine runs_loop (fun k : Nat=>rcl2L ha hb hc a j k) (fun k=>k ≤ (hb.to Wt).length ∧ ∀ x : Nat,x < k → (!beforeR (hc.to Ev) x (a.to Int)[j] || (a.to Int).contains (x : Int)) = true) (fun k=>(hb.to Wt).length - k) (fun _=>rfl) ?_ 0 ⟨Nat.zero_le _,fun x h=>absurd h (Nat.not_lt_zero _)⟩
  intro k ⟨hk,hpk⟩ ihk
  apply exec_sound ctNSOk 300
  rw [rcl2L_go]
  refine ⟨fun hck hs=>?_,fun hck=>?_⟩
  ·have hck : k < (hb.to Wt).length := by have := of_decide_eq_true hck; omega
   have nxt : (!beforeR (hc.to Ev) k (a.to Int)[j] || (a.to Int).contains (k : Int)) = true → Runs Try.prog ⟨w,H⟩ (rcl2L ha hb hc a j (IntKind.i64.wrap ((k : Int) + 1))) (RetS w H (.bool (closedS (hc.to Ev) (hb.to Wt).length (a.to Int)))) := fun h=>by
    have := ihk (k + 1) ⟨hck,fun x hx=>by
     by_cases e : x = k
     ·subst e; exact h
     ·exact hpk x (by omega)⟩ (by omega)
    rw [← wrap_succ hck (by omega)] at this
    exact this
   rw [c3]
   refine ⟨fun hbf=>?_,fun hbf=>?_⟩
   ·simp only [holds_need]
    refine ⟨c1,c2,⟨rc,lc⟩,hbf,hbf,hbf,⟨ra,la⟩,hbf,hbf,fun hn=>ret_lb (.symm ?_),fun hn=>nxt ?_⟩
    ·have hn : (a.to Int).contains (k : Int) = false := by simpa using hn
     unfold closedS
     rw [List.all_eq_false]
     refine ⟨_,List.getElem_mem hcj,?_⟩
     rw [Bool.not_eq_true]
     unfold rowOkR
     rw [List.all_eq_false]
     exact ⟨k,List.mem_range.2 hck,by rw [hbf,hn]; decide⟩
    ·have hn : (a.to Int).contains (k : Int) = true := by simpa using hn
     rw [hn]; simp
   ·simp only [holds_need]
    exact ⟨c1,c2,⟨rc,lc⟩,hbf,hbf,hbf,hbf,hbf,nxt (by rw [hbf]; rfl)⟩
  ·have : k = (hb.to Wt).length := by have := of_decide_eq_false hck; omega
   subst this
   have := ih (j + 1) ⟨hcj,fun x hx hxj=>by
    by_cases e : x = j
    ·subst e
     unfold rowOkR
     rw [List.all_eq_true]
     exact fun y hy=>hpk y (List.mem_range.1 hy)
    ·exact hpre x hx (by omega)⟩ (by omega)
   rw [← wrap_succ hcj (by omega)] at this
   exact this
 ·have : j = (a.to Int).length := by have := of_decide_eq_false hcj; omega
  subst this
  refine ret_lb (.symm ?_)
  unfold closedS
  rw [List.all_eq_true]
  intro b hb'
  obtain ⟨x,hx,rfl⟩ := List.getElem_of_mem hb'
  exact hpre x hx hx
theorem ck_right {x : HiD} (hR : x.Right) (hc : (checkH x.hist).1 = 0) : ((checkH x.hist).2.issued.length = (x.w.to Wt).length) ∧ ((checkH x.hist).2.acked.length = (x.w.to Wt).length) := by
 obtain ⟨htl,hlen,_⟩ := checkH_ok hc
 exact ⟨hlen,by have := htl.len; have e : x.hist.writes.length = (x.w.to Wt).length := rfl; omega⟩

theorem lawCls : Law Try.prog 33 ((rdHi.two rdD).sp spCls) := by
 refine law_in _ (by kernel_rfl) fun H w ⟨⟨ha,hb,hc⟩,a⟩ hok hp=>?_
 obtain ⟨hR,hra,hla⟩ := hp _ (List.mem_singleton.2 rfl)
 simp only at hR hra hla
 obtain ⟨ra,rb,rc,la,lb,lc,rd⟩ := id hR
 simp only at ra rb rc la lb lc rd
 apply exec_sound ctNOk 300
 rw [show (rdHi.two rdD).canon (⟨ha,hb,hc⟩,a) = [.agg [.dat ha,.dat hb,.dat hc],.dat a] from rfl,cls_in]
 have e0 : closedB (HiD.mk ha hb hc).hist (a.to Int) = (decide ((checkH (HiD.mk ha hb hc).hist).1 = 0) && (setH (a.to Int) (hb.to Wt).length && closedS (hc.to Ev) (hb.to Wt).length (a.to Int))) := rfl
 refine ⟨hR,fun hs=>⟨fun h=>?_,fun h=>ret_lb (by rw [e0,h]; rfl)⟩⟩
 have h0 : (checkH (HiD.mk ha hb hc).hist).1 = 0 := of_decide_eq_true h
 obtain ⟨l1,l2⟩ := ck_right hR h0
 simp only [h0,onOk_ok]
 refine ⟨⟨hra,hla,rb⟩,fun h2=>?_,fun h2=>ret_lb ?_⟩
 ·have i1 := D.like_is (hs 0 0) (checkH (HiD.mk ha hb hc).hist).2.issued
  have i2 := D.like_is (hs 0 1) (checkH (HiD.mk ha hb hc).hist).2.acked
  have t1 := D.like_to (hs 0 0) (checkH (HiD.mk ha hb hc).hist).2.issued
  have t2 := D.like_to (hs 0 1) (checkH (HiD.mk ha hb hc).hist).2.acked
  rw [t1,t2]
  refine ⟨⟨rb,i1,i2,hra,lb,hla,l1,l2,h2⟩,ret_bool ?_⟩
  rw [e0,h,h2]
  exact closed_same h0 h2
 ·rw [e0,h,h2]; rfl

theorem lawFst : Law Try.prog 34 (rdInt.one.sp spFst) := by
 refine law_in _ (by kernel_rfl) fun H w n hok hp=>?_
 have hn : n ≤ 1000000 := hp _ (List.mem_singleton.2 rfl)
 apply exec_sound ctNROk 300
 rw [show rdInt.one.canon n = [.int .i64 n] from rfl,fst_in]
 refine vecIn_to 9 3 1 none 3 (fstL (.slc none 1 []) n 0) (by kernel_rfl) ?_
 refine runs_loop (fun q : D × Nat=>fstL q.1 n q.2) (fun q=>(q.2 = 0 ∨ (q.2 : Int) ≤ n) ∧ q.1.Is Int ∧ q.1.sz = 1 ∧ q.1.to Int = (List.range q.2).map fun (a : Nat)=>(a : Int)) (fun q=>n.toNat - q.2) (fun _=>rfl) ?_ (.slc none 1 [],0) ⟨.inl rfl,is_nil _ _,rfl,rfl⟩
 intro ⟨q,j⟩ ⟨hj,hq,hz,hto⟩ ih
 simp only at hj hq hz hto
 have ql := D.Is.length (α := Int) q
 rw [hto,List.length_map,List.length_range] at ql
 show Runs Try.prog ⟨w,H⟩ (unroll (fstL q n j)) _
 apply exec_sound (noCtr _) 300
 rw [fstL_go]
 refine ⟨fun hcj hs1=>?_,fun hcj=>?_⟩
 ·have hcj : (j : Int) < n := of_decide_eq_true hcj
  refine ⟨⟨hz,.inr rfl,by simp only [len_slc,List.length_cons,List.length_nil]; omega,by simp only [len_slc,List.length_cons,List.length_nil]; omega⟩,fun hs2=>?_⟩
  have hr := rows_app (rows_of hq) (int_one (j : Int))
  obtain ⟨i1,i2⟩ := is_of (h := D.hd (hs2 0 0)) (s := 1) rfl hr
  have := ih (_,j + 1) ⟨.inr (by simp only; omega),i1,rfl,i2.trans (by rw [hto,List.range_succ,List.map_append]; rfl)⟩ (by simp only; omega)
  simp only at this
  rw [← wrap_succ (n := 1000001) (by omega) (by omega)] at this
  exact this
 ·have hcj := of_decide_eq_false hcj
  refine ret_one (stands_dat hq hto) ?_
  unfold firstN
  congr 2
  omega


end Go.Proofs.Ytodhhmjilnfecaa
end
section
open Go Go.Proofs Sx
namespace Go.Proofs.Ytodhhmjilnfecaa
set_option maxRecDepth 100000
set_option maxHeartbeats 0
noncomputable def rs1L (ha hb hc a q : D) (z : Int) : Conf := Conf.mk (SFrm.mk 59 none none [Item.inLoop (cAt Try.prog 59 [1,1,1,1,1,0,1,0,0]),Item.inBlock 0,Item.code (cAt Try.prog 59 [1,1,1,1,1,1])] (mkJ 0 [(1,.dat a),(2,.ptr 0 0),(4,.ptr 1 0),(7,.ptr 2 0),(8,.int .i64 z)] 0 90)) [] [(0,OBlk.cells 26 [.dat ha,.dat hb,.dat hc]),(1,OBlk.cells 26 [.nils,.nils,.nils]),(2,OBlk.cells 26 [.dat ha,.nils,.vec 3]),(3,.arr 108 q)]
noncomputable def rs2L (ha hb hc a q : D) (z x : Int) : Conf := Conf.mk (SFrm.mk 59 none none [Item.inLoop (cAt Try.prog 59 [1,1,1,1,1,0,1,0,0,1,0,0,1,0,0]),Item.inBlock 2,Item.inBlock 1,Item.code (cAt Try.prog 59 [1,1,1,1,1,0,1,0,0,1,1]),Item.inLoop (cAt Try.prog 59 [1,1,1,1,1,0,1,0,0]),Item.inBlock 0,Item.code (cAt Try.prog 59 [1,1,1,1,1,1])] (mkJ 0 [(1,.dat a),(2,.ptr 0 0),(4,.ptr 1 0),(7,.ptr 2 0),(8,.int .i64 z),(9,.int .i64 x)] 0 90)) [] [(0,OBlk.cells 26 [.dat ha,.dat hb,.dat hc]),(1,OBlk.cells 26 [.nils,.nils,.nils]),(2,OBlk.cells 26 [.dat ha,.nils,.vec 3]),(3,.arr 108 q)]
noncomputable def rs3L (ha hb hc a q p : D) (x : Int) : Conf := Conf.mk (SFrm.mk 59 none none [Item.inLoop (cAt Try.prog 59 [1,1,1,1,1,1,0,1,0,0]),Item.inBlock 4,Item.code (cAt Try.prog 59 [1,1,1,1,1,1,1])] (mkJ 0 [(1,.dat a),(2,.ptr 0 0),(4,.ptr 1 0),(7,.ptr 2 0),(10,.int .i64 x)] 0 90)) [] [(0,OBlk.cells 26 [.dat ha,.dat hb,.dat hc]),(1,OBlk.cells 26 [.nils,.nils,.nils]),(2,OBlk.cells 26 [.dat ha,.vec 3,.vec 4]),(3,.arr 31 p),(4,.arr 108 q)]
section
variable (p : D) (x : Int) (hs ha hb hc ga gb gc i o a q : D) (z : Int)
theorem rs1_go : exec Try.prog ctRR 400 (unroll (rs1L ha hb hc a q z)) =
 Tree.br (decide (z < (↑(D.len hc) : Int)))
 (.leaf
 (Conf.mk
 (SFrm.mk 59 none none
 [Item.inLoop (cAt Try.prog 59 [1,1,1,1,1,0,1,0,0,1,0,0,1,0,0]),Item.inBlock 2,Item.inBlock 1,
 Item.code (cAt Try.prog 59 [1,1,1,1,1,0,1,0,0,1,1]),
 Item.inLoop (cAt Try.prog 59 [1,1,1,1,1,0,1,0,0]),Item.inBlock 0,
 Item.code (cAt Try.prog 59 [1,1,1,1,1,1])]
 (mkJ 0
 [(1,.dat a),(2,.ptr 0 0),(4,.ptr 1 0),(7,.ptr 2 0),(8,.int .i64 z),
 (9,.int .i64 0)]
 0 90))
 []
 [(0,OBlk.cells 26 [.dat ha,.dat hb,.dat hc]),(1,OBlk.cells 26 [.nils,.nils,.nils]),
 (2,OBlk.cells 26 [.dat ha,.nils,.vec 3]),(3,OBlk.arr 108 q)]))
 (.leaf
 (Conf.mk
 (SFrm.mk 59 none none
 [Item.inLoop (cAt Try.prog 59 [1,1,1,1,1,1,0,1,0,0]),Item.inBlock 4,
 Item.code (cAt Try.prog 59 [1,1,1,1,1,1,1])]
 (mkJ 0 [(1,.dat a),(2,.ptr 0 0),(4,.ptr 1 0),(7,.ptr 2 0),(10,.int .i64 0)] 0 90))
 []
 [(0,OBlk.cells 26 [.dat ha,.dat hb,.dat hc]),(1,OBlk.cells 26 [.nils,.nils,.nils]),
 (2,OBlk.cells 26 [.dat ha,.nils,.vec 3]),(3,OBlk.arr 108 q)])) := by kernel_rfl

theorem rs2_go : exec Try.prog ctRR 400 (unroll (rs2L ha hb hc a q z x)) =
 Tree.br (decide (x < (↑(D.len a) : Int)))
 (.all fun hs =>
 .need (0 ≤ x ∧ x < (↑(D.len a) : Int) ∧ D.sz a = 1)
 (.need (D.HasCell a (Int.toNat x) 0 (FT.int .i64))
 (.need (0 ≤ z ∧ z < (↑(D.len hc) : Int) ∧ D.sz hc = 2)
 (.need (D.HasCell hc (Int.toNat z) 1 (FT.int .i64))
 (.br (decide (D.getInt a (Int.toNat x) 0 = D.getInt hc (Int.toNat z) 1))
 (.all fun hs =>
 .need (0 ≤ z ∧ z < (↑(D.len hc) : Int) ∧ D.sz hc = 2)
 (.need (D.HasCell hc (Int.toNat z) 0 (FT.int .i64))
 (.need
 (D.sz q = 2 ∧
 D.Fits
 (D.slc (D.hd (hs 10 0)) 2
 [[D.int .i64 (D.getInt hc (Int.toNat z) 0),D.int .i64 x]])
 2 ∧
 (D.len q +
 D.len
 (D.slc (D.hd (hs 10 0)) 2
 [[D.int .i64 (D.getInt hc (Int.toNat z) 0),D.int .i64 x]])) *
 16 ≤
 140737488355328 ∧
 D.len q +
 D.len
 (D.slc (D.hd (hs 10 0)) 2
 [[D.int .i64 (D.getInt hc (Int.toNat z) 0),D.int .i64 x]]) ≤
 9223372036854775807)
 (.leaf
 (Conf.mk
 (SFrm.mk 59 none none
 [Item.inLoop (cAt Try.prog 59 [1,1,1,1,1,0,1,0,0,1,0,0,1,0,0]),
 Item.inBlock 2,Item.inBlock 1,
 Item.code (cAt Try.prog 59 [1,1,1,1,1,0,1,0,0,1,1]),
 Item.inLoop (cAt Try.prog 59 [1,1,1,1,1,0,1,0,0]),Item.inBlock 0,
 Item.code (cAt Try.prog 59 [1,1,1,1,1,1])]
 (mkJ 0
 [(1,.dat a),(2,.ptr 0 0),(4,.ptr 1 0),(7,.ptr 2 0),
 (8,.int .i64 z),(9,.int .i64 (IntKind.wrap .i64 (x + 1)))]
 0 90))
 []
 [(0,OBlk.cells 26 [.dat ha,.dat hb,.dat hc]),
 (1,OBlk.cells 26 [.nils,.nils,.nils]),
 (2,OBlk.cells 26 [.dat ha,.nils,.vec 3]),
 (3,
 OBlk.arr 108
 (D.slc (D.hd (hs 11 0)) 2
 (List.append (D.rows q)
 (D.rows
 (D.slc (D.hd (hs 10 0)) 2
 [[D.int .i64 (D.getInt hc (Int.toNat z) 0),
 D.int .i64 x]])))))])))))
 (.leaf
 (Conf.mk
 (SFrm.mk 59 none none
 [Item.inLoop (cAt Try.prog 59 [1,1,1,1,1,0,1,0,0,1,0,0,1,0,0]),Item.inBlock 2,
 Item.inBlock 1,Item.code (cAt Try.prog 59 [1,1,1,1,1,0,1,0,0,1,1]),
 Item.inLoop (cAt Try.prog 59 [1,1,1,1,1,0,1,0,0]),Item.inBlock 0,
 Item.code (cAt Try.prog 59 [1,1,1,1,1,1])]
 (mkJ 0
 [(1,.dat a),(2,.ptr 0 0),(4,.ptr 1 0),(7,.ptr 2 0),(8,.int .i64 z),
 (9,.int .i64 (IntKind.wrap .i64 (x + 1)))]
 0 90))
 []
 [(0,OBlk.cells 26 [.dat ha,.dat hb,.dat hc]),(1,OBlk.cells 26 [.nils,.nils,.nils]),
 (2,OBlk.cells 26 [.dat ha,.nils,.vec 3]),(3,OBlk.arr 108 q)])))))))
 (.leaf
 (Conf.mk
 (SFrm.mk 59 none none
 [Item.inLoop (cAt Try.prog 59 [1,1,1,1,1,0,1,0,0]),Item.inBlock 0,
 Item.code (cAt Try.prog 59 [1,1,1,1,1,1])]
 (mkJ 0
 [(1,.dat a),(2,.ptr 0 0),(4,.ptr 1 0),(7,.ptr 2 0),
 (8,.int .i64 (IntKind.wrap .i64 (z + 1)))]
 0 90))
 []
 [(0,OBlk.cells 26 [.dat ha,.dat hb,.dat hc]),(1,OBlk.cells 26 [.nils,.nils,.nils]),
 (2,OBlk.cells 26 [.dat ha,.nils,.vec 3]),(3,OBlk.arr 108 q)])) := by kernel_rfl

theorem rs3_go : exec Try.prog ctRR 400 (unroll (rs3L ha hb hc a q p x)) =
 Tree.br (decide (x < (↑(D.len a) : Int)))
 (.all fun hs =>
 .need (0 ≤ x ∧ x < (↑(D.len a) : Int) ∧ D.sz a = 1)
 (.need (D.HasCell a (Int.toNat x) 0 (FT.int .i64))
 (.need (0 ≤ D.getInt a (Int.toNat x) 0 ∧ D.getInt a (Int.toNat x) 0 < (↑(D.len hb) : Int) ∧ D.sz hb = 3)
 (.need
 (D.HasCells hb (Int.toNat (D.getInt a (Int.toNat x) 0)) 0 [FT.int .i64,FT.int .i64,FT.slc])
 (.need
 (D.sz p = 3 ∧
 D.Fits
 (D.slc (D.hd (hs 10 0)) 3
 [[D.int .i64 (D.getInt hb (Int.toNat (D.getInt a (Int.toNat x) 0)) 0),
 D.int .i64 (D.getInt hb (Int.toNat (D.getInt a (Int.toNat x) 0)) 1),
 D.cell hb (Int.toNat (D.getInt a (Int.toNat x) 0)) 2]])
 3 ∧
 (D.len p +
 D.len
 (D.slc (D.hd (hs 10 0)) 3
 [[D.int .i64 (D.getInt hb (Int.toNat (D.getInt a (Int.toNat x) 0)) 0),
 D.int .i64 (D.getInt hb (Int.toNat (D.getInt a (Int.toNat x) 0)) 1),
 D.cell hb (Int.toNat (D.getInt a (Int.toNat x) 0)) 2]])) *
 40 ≤
 140737488355328 ∧
 D.len p +
 D.len
 (D.slc (D.hd (hs 10 0)) 3
 [[D.int .i64 (D.getInt hb (Int.toNat (D.getInt a (Int.toNat x) 0)) 0),
 D.int .i64 (D.getInt hb (Int.toNat (D.getInt a (Int.toNat x) 0)) 1),
 D.cell hb (Int.toNat (D.getInt a (Int.toNat x) 0)) 2]]) ≤
 9223372036854775807)
 (.leaf
 (Conf.mk
 (SFrm.mk 59 none none
 [Item.inLoop (cAt Try.prog 59 [1,1,1,1,1,1,0,1,0,0]),Item.inBlock 4,
 Item.code (cAt Try.prog 59 [1,1,1,1,1,1,1])]
 (mkJ 0
 [(1,.dat a),(2,.ptr 0 0),(4,.ptr 1 0),(7,.ptr 2 0),
 (10,.int .i64 (IntKind.wrap .i64 (x + 1)))]
 0 90))
 []
 [(0,OBlk.cells 26 [.dat ha,.dat hb,.dat hc]),(1,OBlk.cells 26 [.nils,.nils,.nils]),
 (2,OBlk.cells 26 [.dat ha,.vec 3,.vec 4]),
 (3,
 OBlk.arr 31
 (D.slc (D.hd (hs 11 0)) 3
 (List.append (D.rows p)
 (D.rows
 (D.slc (D.hd (hs 10 0)) 3
 [[D.int .i64 (D.getInt hb (Int.toNat (D.getInt a (Int.toNat x) 0)) 0),
 D.int .i64 (D.getInt hb (Int.toNat (D.getInt a (Int.toNat x) 0)) 1),
 D.cell hb (Int.toNat (D.getInt a (Int.toNat x) 0)) 2]]))))),
 (4,OBlk.arr 108 q)])))))))
 (.need (HiD.Right (HiD.mk ha p q))
 (.all fun hs =>
 .ret
 (SV.tup
 [.agg
 [.dat (D.like (hs 0 0) (D.to Int ha)),.dat (D.like (hs 0 1) (D.to Wt p)),
 .dat (D.like (hs 0 2) (D.to Ev q))],
 .int .i64 0]))) := by kernel_rfl

end
end Go.Proofs.Ytodhhmjilnfecaa
end
