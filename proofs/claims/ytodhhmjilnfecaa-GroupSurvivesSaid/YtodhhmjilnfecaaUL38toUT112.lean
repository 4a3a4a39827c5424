/- Layer 15: the laws of Restrict. -/
import Derived.Test.YtodhhmjilnfecaaUL21toUT38
import Derived.Test.YtodhhmjilnfecaaRntoN38
import Derived.KernelRfl
import Derived.Test.YtodhhmjilnfecaaN41toUT21
import Derived.Laws.CopyRow
import Derived.Laws.CopyOwn
set_option linter.all false
section
open Go Go.Proofs Sx
namespace Go.Proofs.Ytodhhmjilnfecaa
set_option maxRecDepth 100000

theorem ctRROk : Ctrs.Ok Try.prog ctRR := by
 intro x hx
 rcases List.mem_cons.1 hx with rfl | hx
 ·exact ctrOf_ok lawCopyR
 rcases List.mem_cons.1 hx with rfl | hx
 ·exact ctrOf_ok lawClR
 ·exact ctNROk x hx

section
variable {H : HV} {w : World} {ha hb hc a : D} (hR : (HiD.mk ha hb hc).Right) (hra : a.Is Int) (hla : a.len ≤ 1048576)
 (h0 : (checkH (HiD.mk ha hb hc).hist).1 = 0) (h2 : setH (a.to Int) (hb.to Wt).length = true) (h3 : closedS (hc.to Ev) (hb.to Wt).length (a.to Int) = true)
include hR hra hla h0 h2 h3

theorem rest_result {q p : D} (hq : q.Is Wt) (hql : q.len ≤ 1048576) (hqt : q.to Wt = pickW (hb.to Wt) (a.to Int)) (hp : p.Is Ev) (hpl : p.len ≤ 1048576) (hpt : p.to Ev = restE (a.to Int) (hc.to Ev)) :
  (HiD.mk ha q p).Right ∧ ∀ hs : Nat → Nat → D,(Tree.ret (SV.tup [SV.agg [SV.dat (D.like (hs 0 0) (ha.to Int)),SV.dat (D.like (hs 0 1) (q.to Wt)),SV.dat (D.like (hs 0 2) (p.to Ev))],SV.int IntKind.i64 0])).holds Try.prog ⟨w,H⟩
   (RetD w H fun ds=>.tup [hiSV ds (restrictH (HiD.mk ha hb hc).hist (a.to Int)).1,.int .i64 (restrictH (HiD.mk ha hb hc).hist (a.to Int)).2]) := by
 obtain ⟨ra,rb,rc,la,lb,lc,rd⟩ := id hR
 simp only at ra rb rc la lb lc rd
 have hr : restrictH (HiD.mk ha hb hc).hist (a.to Int) = (⟨ha.to Int,q.to Wt,p.to Ev⟩,0) := by rw [rest_ok h0 h2 h3,hqt,hpt]; rfl
 refine ⟨⟨ra,hq,hp,la,hql,hpl,fun x hx=>?_⟩,fun hs=>?_⟩
 ·simp only [hqt,pickW,List.mem_map] at hx
  obtain ⟨n,hn,rfl⟩ := hx
  obtain ⟨k,hk,rfl⟩ := List.getElem_of_mem hn
  have hz := setH_in h2 hk
  have hlt : ((a.to Int)[k]).toNat < (hb.to Wt).length := by omega
  have : (hb.to Wt).getD ((a.to Int)[k]).toNat zWt = (hb.to Wt)[((a.to Int)[k]).toNat] := by simp [hlt]
  rw [this]
  exact rd _ (List.getElem_mem hlt)
 ·exact ret_hiI stands_like stands_like stands_like (by rw [hr]) (by rw [hr])

end

theorem lawRestR : Law Try.prog 59 ((rdHi.two rdD).sp spRest) := by
 refine law_in _ (by kernel_rfl) fun H w ⟨⟨ha,hb,hc⟩,a⟩ hok hp=>?_
 obtain ⟨hR,hra,hla⟩ := hp _ (List.mem_singleton.2 rfl)
 simp only at hR hra hla
 obtain ⟨ra,rb,rc,la,lb,lc,rd⟩ := id hR
 simp only at ra rb rc la lb lc rd
 have al := D.Is.length (α := Int) a
 have bl := D.Is.length (α := Wt) hb
 have el := D.Is.length (α := Ev) hc
 apply exec_sound ctRROk 400
 rw [show (rdHi.two rdD).canon (⟨ha,hb,hc⟩,a) = [.agg [.dat ha,.dat hb,.dat hc],.dat a] from rfl,rstR_in,bl]
 refine ⟨hR,fun h=>?_,fun h=>?_⟩
 ·have h : (checkH (HiD.mk ha hb hc).hist).1 ≠ 0 := by simpa using h
  exact ret_hiI (s := []) (ws := []) (es := []) stands_nils stands_nils stands_nils (by rw [rest_e1 h]; rfl) (by rw [rest_e1 h])
 have h0 : (checkH (HiD.mk ha hb hc).hist).1 = 0 := by simpa using h
 refine ⟨⟨hra,hla⟩,fun h2=>?_,fun h2=>⟨⟨rc,lc,rb,by omega,hra,hla⟩,fun h3=>?_,fun h3=>?_⟩⟩
 ·have h2 : setH (a.to Int) (hb.to Wt).length = false := by simpa using h2
  have e := rest_e2 (h := (HiD.mk ha hb hc).hist) (set := a.to Int) h0 h2
  exact ret_hiI (s := []) (ws := []) (es := []) stands_nils stands_nils stands_nils (by rw [e]; rfl) (by rw [e])
 ·have h2 : setH (a.to Int) (hb.to Wt).length = true := by simpa using h2
  have h3 : closedS (hc.to Ev) (hb.to Wt).length (a.to Int) = false := by simpa using h3
  have e := rest_e27 (h := (HiD.mk ha hb hc).hist) (set := a.to Int) h0 h2 h3
  exact ret_hiI (s := []) (ws := []) (es := []) stands_nils stands_nils stands_nils (by rw [e]; rfl) (by rw [e])
 have h2 : setH (a.to Int) (hb.to Wt).length = true := by simpa using h2
 have h3 : closedS (hc.to Ev) (hb.to Wt).length (a.to Int) = true := by simpa using h3
 refine vecIn_to 9 108 2 (some 2) 2 (rs1L ha hb hc a (.slc none 2 []) 0) (by kernel_rfl) ?_
 refine runs_loop (fun p : D × Nat=>rs1L ha hb hc a p.1 p.2) (fun p=>p.2 ≤ (hc.to Ev).length ∧ p.1.Is Ev ∧ p.1.sz = 2 ∧ p.1.to Ev = restE (a.to Int) ((hc.to Ev).take p.2)) (fun p=>(hc.to Ev).length - p.2) (fun _=>rfl) ?_ (.slc none 2 [],0) ⟨Nat.zero_le _,is_nil _ _,rfl,rfl⟩
 intro ⟨q,j⟩ ⟨hj,hq,hz,hto⟩ ih
 simp only at hj hq hz hto
 have ql := D.Is.length (α := Ev) q
 have ql2 := restE_len h2 ((hc.to Ev).take j)
 rw [hto] at ql
 rw [List.length_take] at ql2
 show Runs Try.prog _ (unroll (rs1L ha hb hc a q j)) _
 apply exec_sound ctRROk 400
 rw [rs1_go]
 refine ⟨fun hcj=>?_,fun hcj=>?_⟩
 ·have hcj : j < (hc.to Ev).length := by have := of_decide_eq_true hcj; omega
  obtain ⟨c1,c2,c3⟩ := ev_cell rc hcj
  have sn := restE_snoc (set := a.to Int) hcj
  unfold evR at sn
  generalize hev : (hc.to Ev)[j] = ev at c2 c3 sn
  obtain ⟨k,y⟩ := ev
  simp only at c2 c3 sn
  have g0 : hc.getInt (Int.toNat (j : Int)) 0 = k := c2
  have g1 : hc.getInt (Int.toNat (j : Int)) 1 = y := c3
  have c0 : 0 ≤ (j : Int) ∧ (j : Int) < (hc.len : Int) ∧ hc.sz = 2 := ⟨by omega,by omega,rc.size hcj⟩
  refine runs_loop (fun p : D × Nat=>rs2L ha hb hc a p.1 j p.2) (fun p=>p.2 ≤ (a.to Int).length ∧ p.1.Is Ev ∧ p.1.sz = 2 ∧ p.1.len ≤ j + p.2 ∧ p.1.to Ev = restE (a.to Int) ((hc.to Ev).take j) ++ ((List.range p.2).filter fun i=>decide ((a.to Int).getD i 0 = y)).map fun (i : Nat)=>(⟨k,i⟩ : Ev)) (fun p=>(a.to Int).length - p.2) (fun _=>rfl) ?_ (q,0) ⟨Nat.zero_le _,hq,hz,by simp only; omega,by simpa using hto⟩
  intro ⟨p,x⟩ ⟨hx,hp,hpz,hpl,hpt⟩ ihx
  simp only at hx hp hpz hpl hpt
  show Runs Try.prog _ (unroll (rs2L ha hb hc a p j x)) _
  apply exec_sound ctRROk 400
  rw [rs2_go]
  refine ⟨fun hcx hs=>?_,fun hcx=>?_⟩
  ·have hcx : x < (a.to Int).length := by have := of_decide_eq_true hcx; omega
   obtain ⟨d1,d2,d3⟩ := int_at hra hcx
   have gx : (a.to Int).getD x 0 = (a.to Int)[x] := getD_lt hcx
   have sx : ((List.range (x + 1)).filter fun i=>decide ((a.to Int).getD i 0 = y)) = ((List.range x).filter fun i=>decide ((a.to Int).getD i 0 = y)) ++ (if (a.to Int)[x] = y then [x] else []) := by
    rw [List.range_succ,List.filter_append]
    congr 1
    simp only [List.filter_cons,List.filter_nil,gx,decide_eq_true_eq]
   rw [d3,g0,g1]
   refine ⟨d1,d2,c0,c1.2.1,fun h hs1=>?_,fun h=>?_⟩
   ·have h := of_decide_eq_true h
    rw [if_pos h] at sx
    refine ⟨c0,c1.1,⟨hpz,.inr rfl,by simp only [len_slc,List.length_cons,List.length_nil]; omega,by simp only [len_slc,List.length_cons,List.length_nil]; omega⟩,?_⟩
    have hr := rows_app (rows_of hp) (ev_one k (x : Int))
    obtain ⟨i1,i2⟩ := is_of (h := D.hd (hs1 11 0)) (s := 2) rfl hr
    have := ihx (_,x + 1) ⟨hcx,i1,rfl,by simp only [len_slc,append_list,List.length_append,rows_slc,List.length_cons,List.length_nil]; have : p.rows.length = p.len := rfl; omega,i2.trans (by rw [hpt,sx,List.map_append,List.append_assoc]; rfl)⟩ (by simp only; omega)
    simp only at this
    rw [← wrap_succ hcx (by omega)] at this
    exact this
   ·have h := of_decide_eq_false h
    rw [if_neg h,List.append_nil] at sx
    have := ihx (p,x + 1) ⟨hcx,hp,hpz,by simp only; omega,by simp only; rw [hpt,sx]⟩ (by simp only; omega)
    simp only at this
    rw [← wrap_succ hcx (by omega)] at this
    exact this
  ·have : x = (a.to Int).length := by have := of_decide_eq_false hcx; omega
   subst this
   have := ih (p,j + 1) ⟨hcj,hp,hpz,hpt.trans sn.symm⟩ (by simp only; omega)
   simp only at this
   rw [← wrap_succ hcj (by omega)] at this
   exact this
 ·have : j = (hc.to Ev).length := by have := of_decide_eq_false hcj; omega
  subst this
  rw [List.take_length] at hto
  refine vecIn_to 9 31 3 (some 2) 1 (rs3L ha hb hc a q (.slc none 3 []) 0) (by kernel_rfl) ?_
  refine runs_loop (fun p : D × Nat=>rs3L ha hb hc a q p.1 p.2) (fun p=>p.2 ≤ (a.to Int).length ∧ p.1.Is Wt ∧ p.1.sz = 3 ∧ p.1.to Wt = pickW (hb.to Wt) ((a.to Int).take p.2)) (fun p=>(a.to Int).length - p.2) (fun _=>rfl) ?_ (.slc none 3 [],0) ⟨Nat.zero_le _,is_nil _ _,rfl,rfl⟩
  intro ⟨p,x⟩ ⟨hx,hp,hpz,hpt⟩ ihx
  simp only at hx hp hpz hpt
  have pl := D.Is.length (α := Wt) p
  rw [hpt,pickW_len,List.length_take] at pl
  show Runs Try.prog _ (unroll (rs3L ha hb hc a q p x)) _
  apply exec_sound ctRROk 400
  rw [rs3_go]
  refine ⟨fun hcx hs=>?_,fun hcx=>?_⟩
  ·have hcx : x < (a.to Int).length := by have := of_decide_eq_true hcx; omega
   obtain ⟨d1,d2,d3⟩ := int_at hra hcx
   have hzr := setH_in h2 hcx
   obtain ⟨z,hzz⟩ := Int.eq_ofNat_of_zero_le hzr.1
   have hzb : z < (hb.to Wt).length := by omega
   obtain ⟨c1,c2,c3⟩ := wt_cell rb hzb
   rw [d3,hzz]
   simp only [Int.toNat_natCast]
   refine ⟨by simpa using d1,by simpa using d2,⟨by omega,by omega,rb.size hzb⟩,c1,⟨hpz,.inr rfl,by simp only [len_slc,List.length_cons,List.length_nil]; omega,by simp only [len_slc,List.length_cons,List.length_nil]; omega⟩,?_⟩
   have hr := rows_app (rows_of hp) (wt_one (hb.getInt z 0) (hb.getInt z 1) c2)
   obtain ⟨i1,i2⟩ := is_of (h := D.hd (hs 11 0)) (s := 3) rfl hr
   have := ihx (_,x + 1) ⟨hcx,i1,rfl,i2.trans (by
    rw [hpt,pickW_snoc hcx,hzz]
    congr 1
    have : (hb.to Wt).getD (Int.toNat (z : Int)) zWt = (hb.to Wt)[z] := by simp [hzb]
    rw [this,c3])⟩ (by simp only; omega)
   simp only at this
   rw [← wrap_succ hcx (by omega)] at this
   exact this
  ·have : x = (a.to Int).length := by have := of_decide_eq_false hcx; omega
   subst this
   rw [List.take_length] at hpt
   obtain ⟨x1,x2⟩ := rest_result (w := w) (H := H) hR hra hla h0 h2 h3 hp (by omega) hpt hq (by omega) hto
   exact ⟨x1,x2⟩
end Go.Proofs.Ytodhhmjilnfecaa
end
section
open Go Go.Proofs Sx
namespace Go.Proofs.Ytodhhmjilnfecaa
set_option maxRecDepth 100000
set_option maxHeartbeats 0
section
variable (p : Int) (a : D)
theorem una_in : execR Try.prog [] 200 (entry Try.prog 57 [.agg [.dat a],.int .i64 p]) =
 Tree.need (0 ≤ (↑0 : Int) ∧ (↑0 : Int) ≤ p ∧ p ≤ (↑(D.len a) : Int) ∧ D.Fits a 1)
 (.leaf
 (Conf.mk
 (SFrm.mk 57 none none
 [Item.inLoop (cAt Try.prog 57 [1,1,0,1,0,0]),Item.inBlock 0,Item.code (cAt Try.prog 57 [1,1,1])]
 (mkJ 0
 [(5,.nils),(11,.dat (D.sub a 0 (Int.toNat p))),
 (12,.int .i64 (↑(D.len (D.sub a 0 (Int.toNat p))) : Int)),(13,.int .i64 0)]
 0 26))
 [] [])) := by kernel_rfl

end
end Go.Proofs.Ytodhhmjilnfecaa
end
section
open Go Go.Proofs Sx
namespace Go.Proofs.Ytodhhmjilnfecaa
set_option maxRecDepth 100000
set_option maxHeartbeats 0
noncomputable def unaL (d r : D) (j : Int) : Conf := Conf.mk (SFrm.mk 57 none none [Item.inLoop (cAt Try.prog 57 [1,1,0,1,0,0]),Item.inBlock 0,Item.code (cAt Try.prog 57 [1,1,1])] (mkJ 0 [(5,.vec 0),(11,.dat d),(12,.int .i64 (d.len : Int)),(13,.int .i64 j)] 0 26)) [] [(0,.arr 3 r)]
section
variable (j : Int) (d r : D)
theorem una_go : execR Try.prog [] 200 (unroll (unaL d r j)) =
 Tree.br (decide (j < (↑(D.len d) : Int)))
 (.need (0 ≤ j ∧ j < (↑(D.len d) : Int) ∧ D.sz d = 1)
 (.need (D.HasCell d (Int.toNat j) 0 FT.bool)
 (.br (!D.getBool d (Int.toNat j) 0)
 (.all fun hs =>
 .need
 (D.sz r = 1 ∧
 D.Fits (D.slc (D.hd (hs 0 0)) 1 [[D.int .i64 j]]) 1 ∧
 (D.len r + D.len (D.slc (D.hd (hs 0 0)) 1 [[D.int .i64 j]])) * 8 ≤ 140737488355328 ∧
 D.len r + D.len (D.slc (D.hd (hs 0 0)) 1 [[D.int .i64 j]]) ≤ 9223372036854775807)
 (.all fun hs_1 =>
 .leaf
 (Conf.mk
 (SFrm.mk 57 none none
 [Item.inLoop (cAt Try.prog 57 [1,1,0,1,0,0]),Item.inBlock 0,
 Item.code (cAt Try.prog 57 [1,1,1])]
 (mkJ 0
 [(5,.vec 0),(11,.dat d),(12,.int .i64 (↑(D.len d) : Int)),
 (13,.int .i64 (IntKind.wrap .i64 (j + 1)))]
 0 26))
 []
 [(0,
 OBlk.arr 3
 (D.slc (D.hd (hs_1 0 0)) 1
 (List.append (D.rows r) (D.rows (D.slc (D.hd (hs 0 0)) 1 [[D.int .i64 j]])))))])))
 (.leaf
 (Conf.mk
 (SFrm.mk 57 none none
 [Item.inLoop (cAt Try.prog 57 [1,1,0,1,0,0]),Item.inBlock 0,Item.code (cAt Try.prog 57 [1,1,1])]
 (mkJ 0
 [(5,.vec 0),(11,.dat d),(12,.int .i64 (↑(D.len d) : Int)),
 (13,.int .i64 (IntKind.wrap .i64 (j + 1)))]
 0 26))
 [] [(0,OBlk.arr 3 r)])))))
 (.leaf
 (Conf.mk
 (SFrm.mk 57 none none [Item.code (cAt Try.prog 57 [1,1,1,1])]
 (mkJ 0
 [(4,.vec 0),(5,.vec 0),(11,.dat d),(12,.int .i64 (↑(D.len d) : Int)),
 (13,.int .i64 j),(14,.bool (decide (j < (↑(D.len d) : Int)))),(25,.vec 0)]
 0 26))
 [] [(0,OBlk.arr 3 r)])) := by kernel_rfl

end
end Go.Proofs.Ytodhhmjilnfecaa
end
section
open Go Go.Proofs Sx
namespace Go.Proofs.Ytodhhmjilnfecaa
set_option maxRecDepth 100000
set_option maxHeartbeats 0
theorem lawUna : OLaw Try.prog 57 (spUna 3) := by
 refine olaw_ints (by kernel_rfl) fun H w ⟨a,p⟩ hok hp=>?_
 obtain ⟨ha,p0,p1,hl⟩ := hp _ (List.mem_singleton.2 rfl)
 simp only at ha p0 p1 hl
 obtain ⟨p,rfl⟩ := Int.eq_ofNat_of_zero_le p0
 simp only [Int.toNat_natCast]
 have hal := D.Is.length (α := Bool) a
 apply execR_sound (noCtr _) 200
 rw [show (rdAk.two rdInt).canon (a,(p : Int)) = [.agg [.dat a],.int .i64 (p : Int)] from rfl,una_in]
 refine ⟨⟨by decide,p0,p1,ha.fits⟩,?_⟩
 obtain ⟨s1,s2⟩ := sub_is ha p
 rw [Int.toNat_natCast]
 have e : ((a.to Bool).take p).length = p := by rw [List.length_take]; omega
 generalize hd : D.sub a 0 p = d at s1 s2
 have dl := D.Is.length (α := Bool) d
 rw [s2,e] at dl
 refine vecIn_to 9 3 1 none 5 (unaL d (.slc none 1 []) 0) (by kernel_rfl) ?_
 refine runs_loop (fun s : D × Nat=>unaL d s.1 s.2) (fun s=>s.2 ≤ p ∧ s.1.Is Int ∧ s.1.sz = 1 ∧ s.1.to Int = unackN (a.to Bool) s.2) (fun s=>p - s.2) (fun _=>rfl) ?_ (_,0) ⟨Nat.zero_le _,is_nil _ _,rfl,rfl⟩
 rintro ⟨r,j⟩ ⟨hj,r1,r2,r3⟩ ih
 simp only at hj r1 r2 r3 ih ⊢
 have rl : r.len ≤ 1048576 := by rw [D.Is.length (α := Int),r3]; exact Nat.le_trans filtN_len (by omega)
 apply execR_sound (noCtr _) 200
 rw [una_go]
 refine ⟨fun hc=>?_,fun hc=>?_⟩
 ·have hc : j < p := by have := of_decide_eq_true hc; omega
  have hc2 : j < (d.to Bool).length := by rw [s2,e]; exact hc
  obtain ⟨c1,c2,c3⟩ := bool_at s1 hc2
  have e4 : (d.to Bool)[j] = (a.to Bool).getD j false := by
   have : (d.to Bool)[j]? = ((a.to Bool).take p)[j]? := by rw [s2]
   rw [List.getElem?_eq_getElem hc2,List.getElem?_take_of_lt hc] at this
   rw [List.getD_eq_getElem?_getD,← this]; rfl
  have wj : IntKind.i64.wrap ((j : Int) + 1) = ((j + 1 : Nat) : Int) := wrap_succ hc (by omega)
  have sn : unackN (a.to Bool) (j + 1) = if (!(a.to Bool).getD j false) = true then unackN (a.to Bool) j ++ [(j : Int)] else unackN (a.to Bool) j := by
   unfold unackN; rw [filtN_succ]; simp only [Int.toNat_natCast]
  rw [wj,c3,e4]
  refine ⟨c1,c2,fun hz hs=>⟨apq_need r2 rl,fun hs1=>?_⟩,fun hz=>?_⟩
  ·rw [if_pos hz] at sn
   obtain ⟨i1,i2,i3⟩ := apq_is (a := D.hd (hs 0 0)) (b := D.hd (hs1 0 0)) (z := (j : Int)) r1 r3
   exact ih (_,j + 1) ⟨hc,i1,i2,i3.trans sn.symm⟩ (by simp only; omega)
  ·rw [hz,if_neg Bool.false_ne_true] at sn
   exact ih (r,j + 1) ⟨hc,r1,r2,r3.trans sn.symm⟩ (by simp only; omega)
 ·have hc := of_decide_eq_false hc
  have : j = p := by omega
  subst this
  exact own_ret (h := r) Try.func57 (by kernel_rfl) rfl (ints_rows r1 r2 r3)
theorem ctrUna : CtrOk Try.prog 57 (lCtr (spUna 3)) := lCtr_ok lawUna spOwnI_flat
end Go.Proofs.Ytodhhmjilnfecaa
end
section
open Go Go.Proofs Sx
namespace Go.Proofs.Ytodhhmjilnfecaa
set_option maxRecDepth 100000
set_option maxHeartbeats 0
section
variable (ha hb hc wt hd du : D) (fz : Bool)
theorem gr_in : goS Try.prog [] (fun _=>false) [(40,1)] 50 (entry Try.prog 23 [.agg [.dat ha,.dat hb,.dat hc,.dat wt,.dat hd,.bool fz],.dat du]) =
 Tree.leaf
 (Conf.mk
 (SFrm.mk 40 none none [Item.code (cAt Try.prog 40 [0]),Item.code (cAt Try.prog 40 [1])]
 (mkJ 1 [(0,.agg [.dat ha,.dat hb,.dat hc,.dat wt,.dat hd,.bool fz])] 0 130))
 [SFrm.mk 23 (some (opsAt Try.prog 23 [1,0],[2,3,4,5,6])) (some 16) [Item.code (cAt Try.prog 23 [1,1])]
 (mkJ 0 [(1,.dat du),(4,.ptr 0 0)] 0 105)]
 [(0,OBlk.cells 28 [.nils,.nils,.nils,.nils,.nils,.lb false])]) := by kernel_rfl

end
end Go.Proofs.Ytodhhmjilnfecaa
end
section
open Go Go.Proofs Sx
namespace Go.Proofs.Ytodhhmjilnfecaa
set_option maxRecDepth 100000
set_option maxHeartbeats 0
noncomputable def grA (du : D) (v : SV) (m : Mem) : Conf := Conf.mk (SFrm.mk 23 (some (opsAt Try.prog 23 [1,0],[2,3,4,5,6])) none [Item.code (cAt Try.prog 23 [1,1])] (putS (mkJ 0 [(1,.dat du),(4,.ptr 0 0)] 0 105) (some 16) v)) []
 (m ++ [(0,.cells 28 [.nils,.nils,.nils,.nils,.nils,.lb false])])
noncomputable def ctGr : Ctrs := [(54,vCtr ((rdD.two rdBool).sp spHasB)),(57,lCtr (spUna 3))]
section
variable (k : Int) (du p a b c x y : D) (fz : Bool)
theorem grE_go : exec Try.prog [] 200 (grA du (.tup [.nilp,.int .i64 k]) []) =
 Tree.br (k != 0)
 (.ret (SV.tup [.agg [.nils,.nils,.nils,.nils,.nils,.lb false],.nils,.int .i64 k]))
 (.all fun hs=>Tree.stuck) := by kernel_rfl

theorem grO_go : 
 let z1 := (D.sub p (Int.toNat (↑(D.len du) : Int)) (Int.toNat (↑(D.len du) : Int) + (D.len p - Int.toNat (↑(D.len du) : Int))))
 exec Try.prog ctGr 300 (grA du okV (okM p a b c x y fz)) =
 Tree.br false (.ret (SV.tup [.agg [.nils,.nils,.nils,.nils,.nils,.lb false],.nils,.int .i64 0])) (.all fun hs=>.br (decide ((↑(D.len du) : Int) > (↑(D.len p) : Int))) (.need (decide ((↑(D.len du) : Int) >
 (↑(D.len p) : Int)) = true) (.need (decide ((↑(D.len du) : Int) > (↑(D.len p) : Int)) = true) (.need (decide ((↑(D.len du) : Int) > (↑(D.len p) : Int)) = true) (.need (decide ((↑(D.len du) : Int) > (↑(D.len p) : Int)) = true)
 (.need (decide ((↑(D.len du) : Int) > (↑(D.len p) : Int)) = true) (.need (decide ((↑(D.len du) : Int) > (↑(D.len p) : Int)) = true) (.need (decide ((↑(D.len du) : Int) > (↑(D.len p) : Int)) = true) (.need
 (decide ((↑(D.len du) : Int) > (↑(D.len p) : Int)) = true) (.need (decide ((↑(D.len du) : Int) > (↑(D.len p) : Int)) = true) (.ret (SV.tup [.agg [.nils,.nils,.nils,.nils,.nils,.lb false],.nils,.int .i64 27])))))))))))
 (.need (decide ((↑(D.len du) : Int) > (↑(D.len p) : Int)) = false) (.need (decide ((↑(D.len du) : Int) > (↑(D.len p) : Int)) = false) (.need (decide ((↑(D.len du) : Int) > (↑(D.len p) : Int)) = false)
 (.need (decide ((↑(D.len du) : Int) > (↑(D.len p) : Int)) = false) (.need (decide ((↑(D.len du) : Int) > (↑(D.len p) : Int)) = false) (.need (decide ((↑(D.len du) : Int) > (↑(D.len p) : Int)) = false)
 (.need (decide ((↑(D.len du) : Int) > (↑(D.len p) : Int)) = false) (.need (0 ≤ (↑(D.len du) : Int) ∧ (↑(D.len du) : Int) ≤ (↑(D.len p) : Int) ∧ D.Fits p 1) (.need (decide ((↑(D.len du) : Int) > (↑(D.len p) : Int)) = false)
 (.need (D.sz p = 1 ∧ Int.toNat (↑(D.len du) : Int) + (D.len p - Int.toNat (↑(D.len du) : Int)) ≤ D.len p) (.need (D.Is Bool z1 ∧ D.len z1 ≤ 1048576) (.need (decide ((↑(D.len du) : Int) > (↑(D.len p) : Int)) = false)
 (.br (List.any (D.to Bool z1) fun y=>decide (true = y)) (.ret (SV.tup [.agg [.nils,.nils,.nils,.nils,.nils,.lb false],.nils,.int .i64 27])) (.leaf (Conf.mk (SFrm.mk 23 none none [Item.inLoop (cAt Try.prog 23 [1,1,1,1,1,0,1,0,0]),Item.inBlock 0,Item.code
 (cAt Try.prog 23 [1,1,1,1,1,1])] (mkJ 0 [(4,.ptr 0 0),(7,.ptr 1 0),(9,.ptr 2 0),(44,.dat du),(45,.int .i64 (↑(D.len du) : Int)),(46,.int .i64 0)] 0 105)) [] [(0,OBlk.cells 28 [.nils,.nils,.nils,.nils,.nils,.lb false]),
 (1,OBlk.cells 91 [.vec 3,.vec 4,.vec 5,.vec 6,.vec 7,.vec 8,.bool fz]),(2,OBlk.cells 3 [.int .i64 (↑(D.len du) : Int)]),(3,OBlk.arr 4 p),(4,OBlk.arr 3 a),(5,OBlk.arr 31 b),(6,OBlk.arr 108 c),
 (7,OBlk.arr 3 x),(8,OBlk.arr 3 y)])))))))))))))))) := by
 intros; kernel_rfl

end
end Go.Proofs.Ytodhhmjilnfecaa
end
section
open Go Go.Proofs Sx
namespace Go.Proofs.Ytodhhmjilnfecaa
set_option maxRecDepth 100000
set_option maxHeartbeats 0
noncomputable def grL (du p a b c x y : D) (fz : Bool) (z : Int) : Conf := Conf.mk (SFrm.mk 23 none none [Item.inLoop (cAt Try.prog 23 [1,1,1,1,1,0,1,0,0]),Item.inBlock 0,Item.code (cAt Try.prog 23 [1,1,1,1,1,1])] (mkJ 0 [(4,.ptr 0 0),(7,.ptr 1 0),(9,.ptr 2 0),(44,.dat du),(45,.int .i64 (du.len : Int)),(46,.int .i64 z)] 0 105)) [] [(0,OBlk.cells 28 [.nils,.nils,.nils,.nils,.nils,.lb false]),(1,OBlk.cells 91 [.vec 3,.vec 4,.vec 5,.vec 6,.vec 7,.vec 8,.bool fz]),(2,OBlk.cells 3 [.int .i64 (du.len : Int)]),(3,OBlk.arr 4 p),(4,OBlk.arr 3 a),(5,OBlk.arr 31 b),(6,OBlk.arr 108 c),(7,OBlk.arr 3 x),(8,OBlk.arr 3 y)]
section
variable (z : Int) (du p a b c x y : D) (fz : Bool)
theorem grl_go : goS Try.prog ctGr (fun _=>false) [(55,8)] 300 (unroll (grL du p a b c x y fz z)) =
 Tree.br (decide (z < (↑(D.len du) : Int)))
 (.need (0 ≤ z ∧ z < (↑(D.len du) : Int) ∧ D.sz du = 1)
 (.need (D.HasCell du (Int.toNat z) 0 (FT.int .i64))
 (.br (D.getInt du (Int.toNat z) 0 != z)
 (.ret
 (SV.tup [.agg [.nils,.nils,.nils,.nils,.nils,.lb false],.nils,.int .i64 27]))
 (.leaf
 (Conf.mk
 (SFrm.mk 23 none none
 [Item.inLoop (cAt Try.prog 23 [1,1,1,1,1,0,1,0,0]),Item.inBlock 0,
 Item.code (cAt Try.prog 23 [1,1,1,1,1,1])]
 (mkJ 0
 [(4,.ptr 0 0),(7,.ptr 1 0),(9,.ptr 2 0),(44,.dat du),
 (45,.int .i64 (↑(D.len du) : Int)),
 (46,.int .i64 (IntKind.wrap .i64 (z + 1)))]
 0 105))
 []
 [(0,OBlk.cells 28 [.nils,.nils,.nils,.nils,.nils,.lb false]),
 (1,OBlk.cells 91 [.vec 3,.vec 4,.vec 5,.vec 6,.vec 7,.vec 8,.bool fz]),
 (2,OBlk.cells 3 [.int .i64 (↑(D.len du) : Int)]),(3,OBlk.arr 4 p),(4,OBlk.arr 3 a),
 (5,OBlk.arr 31 b),(6,OBlk.arr 108 c),(7,OBlk.arr 3 x),(8,OBlk.arr 3 y)])))))
 (.all fun hs =>
 .need
 (0 ≤ (↑0 : Int) ∧ (↑0 : Int) ≤ (↑(D.len du) : Int) ∧ (↑(D.len du) : Int) ≤ (↑(D.len b) : Int) ∧ D.Fits b 3)
 (.leaf
 (Conf.mk
 (SFrm.mk 55 none none [Item.code (cAt Try.prog 55 [1,0]),Item.code (cAt Try.prog 55 [1,1])]
 (mkJ 1 [(0,.vec 0),(1,SV.fn 56 [] [.ptr 1 0])] 0 42))
 [SFrm.mk 23 (some (opsAt Try.prog 23 [1,1,1,1,1,1,1,1,0],[7,8,9])) (some 75)
 [Item.code (cAt Try.prog 23 [1,1,1,1,1,1,1,1,1])]
 (mkJ 0 [(4,.ptr 2 0),(7,.ptr 3 0),(9,.ptr 1 0),(69,.ptr 3 1)] 0 105)]
 [(0,OBlk.arr 108 c),(1,OBlk.cells 3 [.int .i64 (↑(D.len du) : Int)]),
 (2,OBlk.cells 28 [.nils,.nils,.nils,.nils,.nils,.lb false]),
 (3,
 OBlk.cells 91
 [.vec 4,.vec 5,.dat (D.sub b 0 (Int.toNat (↑(D.len du) : Int))),.vec 0,.vec 6,.vec 7,
 .bool fz]),
 (4,OBlk.arr 4 p),(5,OBlk.arr 3 a),(6,OBlk.arr 3 x),(7,OBlk.arr 3 y)]))) := by kernel_rfl

end
end Go.Proofs.Ytodhhmjilnfecaa
end
section
open Go Go.Proofs Sx
namespace Go.Proofs.Ytodhhmjilnfecaa
set_option maxRecDepth 100000
set_option maxHeartbeats 0
noncomputable def dfR : List SFrm := [SFrm.mk 23 (some (opsAt Try.prog 23 [1,1,1,1,1,1,1,1,0],[7,8,9])) (some 75) [Item.code (cAt Try.prog 23 [1,1,1,1,1,1,1,1,1])] (mkJ 0 [(4,.ptr 2 0),(7,.ptr 3 0),(9,.ptr 1 0),(69,.ptr 3 1)] 0 105)]
noncomputable def dfM (n : Int) (u c p a x y : D) (fz : Bool) : Mem := [(0,OBlk.arr 108 c),(1,OBlk.cells 3 [.int .i64 n]),(2,OBlk.cells 28 [.nils,.nils,.nils,.nils,.nils,.lb false]),(3,OBlk.cells 91 [.vec 4,.vec 5,.dat u,.vec 0,.vec 6,.vec 7,.bool fz]),(4,OBlk.arr 4 p),(5,OBlk.arr 3 a),(6,OBlk.arr 3 x),(7,OBlk.arr 3 y)]
noncomputable def dfA (n : Int) (u c p a x y : D) (fz : Bool) : Conf := Conf.mk (SFrm.mk 55 none none [Item.code (cAt Try.prog 55 [1,0]),Item.code (cAt Try.prog 55 [1,1])] (mkJ 1 [(0,.vec 0),(1,SV.fn 56 [] [.ptr 1 0])] 0 42)) dfR (dfM n u c p a x y fz)
section
variable (n : Int) (u p a c x y : D) (fz : Bool)
theorem df_in : goS Try.prog ctGr (fun _=>false) [(91,5)] 300 (dfA n u c p a x y fz) =
 Tree.leaf
 (Conf.mk
 (SFrm.mk 91 none none
 [Item.inLoop (cAt Try.prog 91 [1,0,1,0,0]),Item.inBlock 0,Item.code (cAt Try.prog 91 [1,1])]
 (mkJ 2
 [(0,.vec 0),(1,SV.fn 56 [] [.ptr 1 0]),(7,.int .i64 (↑(D.len c) : Int)),
 (8,.int .i64 0)]
 0 19))
 [SFrm.mk 55 (some (opsAt Try.prog 55 [1,0],[3])) (some 10) [Item.code (cAt Try.prog 55 [1,1])]
 (mkJ 1 [(0,.vec 0),(1,SV.fn 56 [] [.ptr 1 0]),(8,.vec 0),(9,SV.fn 56 [] [.ptr 1 0])] 0 42),
 SFrm.mk 23 (some (opsAt Try.prog 23 [1,1,1,1,1,1,1,1,0],[7,8,9])) (some 75)
 [Item.code (cAt Try.prog 23 [1,1,1,1,1,1,1,1,1])]
 (mkJ 0 [(4,.ptr 2 0),(7,.ptr 3 0),(9,.ptr 1 0),(69,.ptr 3 1)] 0 105)]
 [(0,OBlk.arr 108 c),(1,OBlk.cells 3 [.int .i64 n]),
 (2,OBlk.cells 28 [.nils,.nils,.nils,.nils,.nils,.lb false]),
 (3,OBlk.cells 91 [.vec 4,.vec 5,.dat u,.vec 0,.vec 6,.vec 7,.bool fz]),(4,OBlk.arr 4 p),
 (5,OBlk.arr 3 a),(6,OBlk.arr 3 x),(7,OBlk.arr 3 y)]) := by kernel_rfl

end
end Go.Proofs.Ytodhhmjilnfecaa
end
section
open Go Go.Proofs Sx
namespace Go.Proofs.Ytodhhmjilnfecaa
set_option maxRecDepth 100000
set_option maxHeartbeats 0
noncomputable def dxL (n : Int) (u c p a x y : D) (fz : Bool) (z : Int) : Conf := Conf.mk (SFrm.mk 91 none none [Item.inLoop (cAt Try.prog 91 [1,0,1,0,0]),Item.inBlock 0,Item.code (cAt Try.prog 91 [1,1])] (mkJ 2 [(0,.vec 0),(1,SV.fn 56 [] [.ptr 1 0]),(7,.int .i64 (c.len : Int)),(8,.int .i64 z)] 0 19))
 (SFrm.mk 55 (some (opsAt Try.prog 55 [1,0],[3])) (some 10) [Item.code (cAt Try.prog 55 [1,1])] (mkJ 1 [(0,.vec 0),(1,SV.fn 56 [] [.ptr 1 0]),(8,.vec 0),(9,SV.fn 56 [] [.ptr 1 0])] 0 42) :: dfR) (dfM n u c p a x y fz)
section
variable (n z : Int) (u p a c x y : D) (fz : Bool)
theorem dx_go : 
 let z1 : Tree := (.all fun hs=>.need (D.Is Bool p ∧ 0 ≤ n ∧ n ≤ (↑(D.len p) : Int) ∧ D.len p ≤ 1048576) (.leaf (Conf.mk (SFrm.mk 53 none none [Item.code (cAt Try.prog 53 [0]),Item.code (cAt Try.prog 53 [1])] (mkJ 1 [(0,.vec 0),(1,SV.fn 46 [.ptr 1 0] [])] 0 16)) [SFrm.mk 23 (some (opsAt Try.prog 23 [1,1,1,1,1,1,1,1,1,1,1,0],[])) (some 99) [Item.code (cAt Try.prog 23 [1,1,1,1,1,1,1,1,1,1,1,1])] (mkJ 0 [(4,.ptr 2 0),(7,.ptr 1 0),(13,.vec 0)] 0 105)] [(0,OBlk.arr 3 (D.slc (D.hd (hs 5 0)) 1 (List.map (fun n=>[D.int .i64 n]) (unackN (D.to Bool p) (Int.toNat n))))),(1,OBlk.cells 91 [.vec 3,.vec 4,.dat u,.vec 5,.nils,.nils,.lb false]),(2,OBlk.cells 28 [.nils,.nils,.nils,.nils,.nils,.lb false]),(3,OBlk.arr 4 p),(4,OBlk.arr 3 a),(5,OBlk.arr 108 c)])))
 let z2 := (mkJ 0 [(4,.ptr 2 0),(7,.ptr 3 0),(9,.ptr 1 0),(69,.ptr 3 1)] 0 105)
 goS Try.prog ctGr (fun _=>false) [(53,6)] 300 (unroll (dxL n u c p a x y fz z)) =
 Tree.br (decide (z < (↑(D.len c) : Int))) (.need (0 ≤ z ∧ z < (↑(D.len c) : Int) ∧ D.sz c = 2) (.need (D.HasCells c (Int.toNat z) 0 [FT.int .i64,FT.int .i64] ∧ D.sz c = 2) (.br (decide (D.getInt c (Int.toNat z) 1 ≥ n))
 (.br (decide (z = Int.neg 1)) z1 (.leaf (Conf.mk (SFrm.mk 55 none none [Item.inLoop (cAt Try.prog 55 [1,1,1,0,1,0,0]),Item.inBlock 0,Item.code (cAt Try.prog 55 [1,1,1,1])] (mkJ 1 [(0,.vec 0),
 (1,SV.fn 56 [] [.ptr 1 0]),(5,.int .i64 z),(6,.int .i64 (IntKind.wrap .i64 (z + 1)))] 0 42)) [SFrm.mk 23 (some (opsAt Try.prog 23 [1,1,1,1,1,1,1,1,0],[7,8,9])) (some 75) [Item.code (cAt Try.prog 23 [1,1,1,1,1,1,1,1,1])] z2] [(0,OBlk.arr 108 c),
 (1,OBlk.cells 3 [.int .i64 n]),(2,OBlk.cells 28 [.nils,.nils,.nils,.nils,.nils,.lb false]),(3,OBlk.cells 91 [.vec 4,.vec 5,.dat u,.vec 0,.vec 6,.vec 7,.bool fz]),(4,OBlk.arr 4 p),(5,OBlk.arr 3 a),
 (6,OBlk.arr 3 x),(7,OBlk.arr 3 y)]))) (.leaf (Conf.mk (SFrm.mk 91 none none [Item.inLoop (cAt Try.prog 91 [1,0,1,0,0]),Item.inBlock 0,Item.code (cAt Try.prog 91 [1,1])] (mkJ 2 [(0,.vec 0),(1,SV.fn 56 [] [.ptr 1 0]),
 (7,.int .i64 (↑(D.len c) : Int)),(8,.int .i64 (IntKind.wrap .i64 (z + 1)))] 0 19)) [SFrm.mk 55 (some (opsAt Try.prog 55 [1,0],[3])) (some 10) [Item.code (cAt Try.prog 55 [1,1])] (mkJ 1 [(0,.vec 0),
 (1,SV.fn 56 [] [.ptr 1 0]),(8,.vec 0),(9,SV.fn 56 [] [.ptr 1 0])] 0 42),SFrm.mk 23 (some (opsAt Try.prog 23 [1,1,1,1,1,1,1,1,0],[7,8,9])) (some 75) [Item.code (cAt Try.prog 23 [1,1,1,1,1,1,1,1,1])] z2] [(0,OBlk.arr 108 c),
 (1,OBlk.cells 3 [.int .i64 n]),(2,OBlk.cells 28 [.nils,.nils,.nils,.nils,.nils,.lb false]),(3,OBlk.cells 91 [.vec 4,.vec 5,.dat u,.vec 0,.vec 6,.vec 7,.bool fz]),(4,OBlk.arr 4 p),(5,OBlk.arr 3 a),
 (6,OBlk.arr 3 x),(7,OBlk.arr 3 y)]))))) (.br true z1 (.leaf (Conf.mk (SFrm.mk 55 none none [Item.inLoop (cAt Try.prog 55 [1,1,1,0,1,0,0]),Item.inBlock 0,Item.code (cAt Try.prog 55 [1,1,1,1])]
 (mkJ 1 [(0,.vec 0),(1,SV.fn 56 [] [.ptr 1 0]),(5,.int .i64 (Int.neg 1)),(6,.int .i64 (IntKind.wrap .i64 (Int.neg 1 + 1)))] 0 42)) [SFrm.mk 23 (some (opsAt Try.prog 23 [1,1,1,1,1,1,1,1,0],[7,8,9]))
 (some 75) [Item.code (cAt Try.prog 23 [1,1,1,1,1,1,1,1,1])] z2] [(0,OBlk.arr 108 c),(1,OBlk.cells 3 [.int .i64 n]),(2,OBlk.cells 28 [.nils,.nils,.nils,.nils,.nils,.lb false]),(3,OBlk.cells 91 [.vec 4,.vec 5,.dat u,.vec 0,.vec 6,.vec 7,.bool fz]),
 (4,OBlk.arr 4 p),(5,OBlk.arr 3 a),(6,OBlk.arr 3 x),(7,OBlk.arr 3 y)]))) := by
 intros; kernel_rfl

end
end Go.Proofs.Ytodhhmjilnfecaa
end
section
open Go Go.Proofs Sx
namespace Go.Proofs.Ytodhhmjilnfecaa
set_option maxRecDepth 100000
set_option maxHeartbeats 0
noncomputable def dfL (n : Int) (u c p a x y : D) (fz : Bool) (i j : Int) : Conf := Conf.mk (SFrm.mk 55 none none [Item.inLoop (cAt Try.prog 55 [1,1,1,0,1,0,0]),Item.inBlock 0,Item.code (cAt Try.prog 55 [1,1,1,1])] (mkJ 1 [(0,.vec 0),(1,SV.fn 56 [] [.ptr 1 0]),(5,.int .i64 i),(6,.int .i64 j)] 0 42)) dfR (dfM n u c p a x y fz)
section
variable (n i j : Int) (u p a c x y : D) (fz : Bool)
theorem df_go : goS Try.prog ctGr (fun _=>false) [(55,36)] 300 (unroll (dfL n u c p a x y fz i j)) =
 Tree.br (decide (j < (↑(D.len c) : Int)))
 (.need (0 ≤ j ∧ j < (↑(D.len c) : Int) ∧ D.sz c = 2)
 (.need (D.HasCells c (Int.toNat j) 0 [FT.int .i64,FT.int .i64] ∧ D.sz c = 2)
 (.br (!decide (D.getInt c (Int.toNat j) 1 ≥ n))
 (.need (0 ≤ i ∧ i < (↑(D.len c) : Int) ∧ D.sz c = 2)
 (.need (Int.toNat i < D.len c ∧ 2 ≤ D.sz c ∧ D.sz c = 2)
 (.leaf
 (Conf.mk
 (SFrm.mk 55 none none
 [Item.inLoop (cAt Try.prog 55 [1,1,1,0,1,0,0]),Item.inBlock 0,
 Item.code (cAt Try.prog 55 [1,1,1,1])]
 (mkJ 1
 [(0,.vec 0),(1,SV.fn 56 [] [.ptr 1 0]),
 (5,.int .i64 (IntKind.wrap .i64 (i + 1))),
 (6,.int .i64 (IntKind.wrap .i64 (j + 1)))]
 0 42))
 [SFrm.mk 23 (some (opsAt Try.prog 23 [1,1,1,1,1,1,1,1,0],[7,8,9])) (some 75)
 [Item.code (cAt Try.prog 23 [1,1,1,1,1,1,1,1,1])]
 (mkJ 0 [(4,.ptr 2 0),(7,.ptr 3 0),(9,.ptr 1 0),(69,.ptr 3 1)] 0 105)]
 [(0,
 OBlk.arr 108
 (D.setCells c (Int.toNat i) 0
 [D.int .i64 (D.getInt c (Int.toNat j) 0),
 D.int .i64 (D.getInt c (Int.toNat j) 1)])),
 (1,OBlk.cells 3 [.int .i64 n]),
 (2,OBlk.cells 28 [.nils,.nils,.nils,.nils,.nils,.lb false]),
 (3,OBlk.cells 91 [.vec 4,.vec 5,.dat u,.vec 0,.vec 6,.vec 7,.bool fz]),
 (4,OBlk.arr 4 p),(5,OBlk.arr 3 a),(6,OBlk.arr 3 x),(7,OBlk.arr 3 y)]))))
 (.leaf
 (Conf.mk
 (SFrm.mk 55 none none
 [Item.inLoop (cAt Try.prog 55 [1,1,1,0,1,0,0]),Item.inBlock 0,
 Item.code (cAt Try.prog 55 [1,1,1,1])]
 (mkJ 1
 [(0,.vec 0),(1,SV.fn 56 [] [.ptr 1 0]),(5,.int .i64 i),
 (6,.int .i64 (IntKind.wrap .i64 (j + 1)))]
 0 42))
 [SFrm.mk 23 (some (opsAt Try.prog 23 [1,1,1,1,1,1,1,1,0],[7,8,9])) (some 75)
 [Item.code (cAt Try.prog 23 [1,1,1,1,1,1,1,1,1])]
 (mkJ 0 [(4,.ptr 2 0),(7,.ptr 3 0),(9,.ptr 1 0),(69,.ptr 3 1)] 0 105)]
 [(0,OBlk.arr 108 c),(1,OBlk.cells 3 [.int .i64 n]),
 (2,OBlk.cells 28 [.nils,.nils,.nils,.nils,.nils,.lb false]),
 (3,OBlk.cells 91 [.vec 4,.vec 5,.dat u,.vec 0,.vec 6,.vec 7,.bool fz]),
 (4,OBlk.arr 4 p),(5,OBlk.arr 3 a),(6,OBlk.arr 3 x),(7,OBlk.arr 3 y)])))))
 (.leaf
 (Conf.mk
 (SFrm.mk 55 none none [Item.code (cAt Try.prog 55 [1,1,1,1,0]),Item.code (cAt Try.prog 55 [1,1,1,1,1])]
 (mkJ 1 [(0,.vec 0),(5,.int .i64 i)] 0 42))
 [SFrm.mk 23 (some (opsAt Try.prog 23 [1,1,1,1,1,1,1,1,0],[7,8,9])) (some 75)
 [Item.code (cAt Try.prog 23 [1,1,1,1,1,1,1,1,1])]
 (mkJ 0 [(4,.ptr 1 0),(7,.ptr 2 0),(9,.ptr 3 0),(69,.ptr 2 1)] 0 105)]
 [(0,OBlk.arr 108 c),(1,OBlk.cells 28 [.nils,.nils,.nils,.nils,.nils,.lb false]),
 (2,OBlk.cells 91 [.vec 4,.vec 5,.dat u,.vec 0,.vec 6,.vec 7,.bool fz]),
 (3,OBlk.cells 3 [.int .i64 n]),(4,OBlk.arr 4 p),(5,OBlk.arr 3 a),(6,OBlk.arr 3 x),
 (7,OBlk.arr 3 y)])) := by kernel_rfl

end
end Go.Proofs.Ytodhhmjilnfecaa
end
section
open Go Go.Proofs Sx
namespace Go.Proofs.Ytodhhmjilnfecaa
set_option maxRecDepth 100000
set_option maxHeartbeats 0
noncomputable def dfE (n : Int) (u c p a x y : D) (fz : Bool) (i : Int) : Conf := Conf.mk (SFrm.mk 55 none none [Item.code (cAt Try.prog 55 [1,1,1,1,0]),Item.code (cAt Try.prog 55 [1,1,1,1,1])] (mkJ 1 [(0,.vec 0),(5,.int .i64 i)] 0 42)) [SFrm.mk 23 (some (opsAt Try.prog 23 [1,1,1,1,1,1,1,1,0],[7,8,9])) (some 75) [Item.code (cAt Try.prog 23 [1,1,1,1,1,1,1,1,1])] (mkJ 0 [(4,.ptr 1 0),(7,.ptr 2 0),(9,.ptr 3 0),(69,.ptr 2 1)] 0 105)]
 [(0,OBlk.arr 108 c),(1,OBlk.cells 28 [.nils,.nils,.nils,.nils,.nils,.lb false]),(2,OBlk.cells 91 [.vec 4,.vec 5,.dat u,.vec 0,.vec 6,.vec 7,.bool fz]),(3,OBlk.cells 3 [.int .i64 n]),(4,OBlk.arr 4 p),(5,OBlk.arr 3 a),(6,OBlk.arr 3 x),(7,OBlk.arr 3 y)]
section
variable (n i : Int) (u p a c x y : D) (fz : Bool)
theorem ds_go : goS Try.prog ctGr (fun _=>false) [(53,6)] 300 ((shiftC 2000 (dfE n u c p a x y fz i)).getD (dfE n u c p a x y fz i)) =
 Tree.need (0 ≤ i ∧ i ≤ (↑(D.len c) : Int) ∧ D.Fits c 2)
 (.need (2 = 2 ∧ D.sz c = 2 ∧ Int.toNat i + (D.len c - Int.toNat i) ≤ D.len c ∧ D.len c ≤ 9223372036854775807)
 (.need
 (0 ≤ i ∧
 i ≤
 (↑(D.len
 (D.slc (D.hd c) (D.sz c)
 (List.append (List.take (Int.toNat i) (D.rows c))
 (List.append (List.replicate (D.len c - Int.toNat i) [D.int .i64 0,D.int .i64 0])
 (List.drop (Int.toNat i + (D.len c - Int.toNat i)) (D.rows c)))))) :
 Int) ∧
 D.Fits
 (D.slc (D.hd c) (D.sz c)
 (List.append (List.take (Int.toNat i) (D.rows c))
 (List.append (List.replicate (D.len c - Int.toNat i) [D.int .i64 0,D.int .i64 0])
 (List.drop (Int.toNat i + (D.len c - Int.toNat i)) (D.rows c)))))
 2)
 (.all fun hs =>
 .need (D.Is Bool p ∧ 0 ≤ n ∧ n ≤ (↑(D.len p) : Int) ∧ D.len p ≤ 1048576)
 (.leaf
 (Conf.mk
 (SFrm.mk 53 none none [Item.code (cAt Try.prog 53 [0]),Item.code (cAt Try.prog 53 [1])]
 (mkJ 1 [(0,.vec 0),(1,SV.fn 46 [.ptr 1 0] [])] 0 16))
 [SFrm.mk 23 (some (opsAt Try.prog 23 [1,1,1,1,1,1,1,1,1,1,1,0],[])) (some 99)
 [Item.code (cAt Try.prog 23 [1,1,1,1,1,1,1,1,1,1,1,1])]
 (mkJ 0 [(4,.ptr 2 0),(7,.ptr 1 0),(13,.vec 0)] 0 105)]
 [(0,
 OBlk.arr 3
 (D.slc (D.hd (hs 5 0)) 1
 (List.map (fun n=>[D.int .i64 n]) (unackN (D.to Bool p) (Int.toNat n))))),
 (1,OBlk.cells 91 [.vec 3,.vec 4,.dat u,.vec 5,.nils,.nils,.lb false]),
 (2,OBlk.cells 28 [.nils,.nils,.nils,.nils,.nils,.lb false]),(3,OBlk.arr 4 p),
 (4,OBlk.arr 3 a),
 (5,
 OBlk.arr 108
 (D.slc
 (D.hd
 (D.slc (D.hd c) (D.sz c)
 (List.append (List.take (Int.toNat i) (D.rows c))
 (List.append
 (List.replicate (D.len c - Int.toNat i) [D.int .i64 0,D.int .i64 0])
 (List.drop (Int.toNat i + (D.len c - Int.toNat i)) (D.rows c))))))
 (D.sz
 (D.slc (D.hd c) (D.sz c)
 (List.append (List.take (Int.toNat i) (D.rows c))
 (List.append
 (List.replicate (D.len c - Int.toNat i) [D.int .i64 0,D.int .i64 0])
 (List.drop (Int.toNat i + (D.len c - Int.toNat i)) (D.rows c))))))
 (List.take (Int.toNat i)
 (D.rows
 (D.slc (D.hd c) (D.sz c)
 (List.append (List.take (Int.toNat i) (D.rows c))
 (List.append
 (List.replicate (D.len c - Int.toNat i) [D.int .i64 0,D.int .i64 0])
 (List.drop (Int.toNat i + (D.len c - Int.toNat i)) (D.rows c)))))))))]))))) := by kernel_rfl

end
end Go.Proofs.Ytodhhmjilnfecaa
end
section
open Go Go.Proofs Sx
namespace Go.Proofs.Ytodhhmjilnfecaa
set_option maxRecDepth 100000
set_option maxHeartbeats 0
noncomputable def eaR : List SFrm := [SFrm.mk 23 (some (opsAt Try.prog 23 [1,1,1,1,1,1,1,1,1,1,1,0],[])) (some 99) [Item.code (cAt Try.prog 23 [1,1,1,1,1,1,1,1,1,1,1,1])] (mkJ 0 [(4,.ptr 2 0),(7,.ptr 1 0),(13,.vec 0)] 0 105)]
noncomputable def eaM (l u p a q : D) : Mem := [(0,OBlk.arr 3 l),(1,OBlk.cells 91 [.vec 3,.vec 4,.dat u,.vec 5,.nils,.nils,.lb false]),(2,OBlk.cells 28 [.nils,.nils,.nils,.nils,.nils,.lb false]),(3,OBlk.arr 4 p),(4,OBlk.arr 3 a),(5,OBlk.arr 108 q)]
noncomputable def eaA (l u p a q : D) : Conf := Conf.mk (SFrm.mk 53 none none [Item.code (cAt Try.prog 53 [0]),Item.code (cAt Try.prog 53 [1])] (mkJ 1 [(0,.vec 0),(1,SV.fn 46 [.ptr 1 0] [])] 0 16)) eaR (eaM l u p a q)
section
variable (u p a l q : D)
theorem ea_in : goS Try.prog ctGr (fun _=>false) [(46,1000)] 300 (eaA l u p a q) =
 Tree.leaf
 (Conf.mk
 (SFrm.mk 53 none none [Item.inLoop (cAt Try.prog 53 [1,0,0]),Item.inBlock 0]
 (mkJ 1
 [(1,SV.fn 46 [.ptr 0 0] []),(6,.vec 1),(7,.int .i64 (↑(D.len l) : Int)),
 (8,.int .i64 0)]
 0 16))
 [SFrm.mk 23 (some (opsAt Try.prog 23 [1,1,1,1,1,1,1,1,1,1,1,0],[])) (some 99)
 [Item.code (cAt Try.prog 23 [1,1,1,1,1,1,1,1,1,1,1,1])]
 (mkJ 0 [(4,.ptr 2 0),(7,.ptr 0 0),(13,.vec 1)] 0 105)]
 [(0,OBlk.cells 91 [.vec 3,.vec 4,.dat u,.vec 5,.nils,.nils,.lb false]),(1,OBlk.arr 3 l),
 (2,OBlk.cells 28 [.nils,.nils,.nils,.nils,.nils,.lb false]),(3,OBlk.arr 4 p),
 (4,OBlk.arr 3 a),(5,OBlk.arr 108 q)]) := by kernel_rfl

end
end Go.Proofs.Ytodhhmjilnfecaa
end
section
open Go Go.Proofs Sx
namespace Go.Proofs.Ytodhhmjilnfecaa
set_option maxRecDepth 100000
set_option maxHeartbeats 0
noncomputable def eaL (l u p a q : D) (z : Int) : Conf := Conf.mk (SFrm.mk 53 none none [Item.inLoop (cAt Try.prog 53 [1,0,0]),Item.inBlock 0] (mkJ 1 [(1,SV.fn 46 [.ptr 0 0] []),(6,.vec 1),(7,.int .i64 (l.len : Int)),(8,.int .i64 z)] 0 16))
 [SFrm.mk 23 (some (opsAt Try.prog 23 [1,1,1,1,1,1,1,1,1,1,1,0],[])) (some 99) [Item.code (cAt Try.prog 23 [1,1,1,1,1,1,1,1,1,1,1,1])] (mkJ 0 [(4,.ptr 2 0),(7,.ptr 0 0),(13,.vec 1)] 0 105)]
 [(0,OBlk.cells 91 [.vec 3,.vec 4,.dat u,.vec 5,.nils,.nils,.lb false]),(1,OBlk.arr 3 l),(2,OBlk.cells 28 [.nils,.nils,.nils,.nils,.nils,.lb false]),(3,OBlk.arr 4 p),(4,OBlk.arr 3 a),(5,OBlk.arr 108 q)]
section
variable (z : Int) (u p a l q : D)
theorem ea_go : goS Try.prog ctGr (fun _=>false) [(46,1000)] 300 (unroll (eaL l u p a q z)) =
 Tree.br (decide (z < (↑(D.len l) : Int)))
 (.need (0 ≤ z ∧ z < (↑(D.len l) : Int) ∧ D.sz l = 1)
 (.need (D.HasCell l (Int.toNat z) 0 (FT.int .i64) ∧ D.sz l = 1)
 (.all fun hs =>
 .need
 (D.sz q = 2 ∧
 D.Fits (D.slc (D.hd (hs 0 0)) 2 [[D.int .i64 1,D.int .i64 (D.getInt l (Int.toNat z) 0)]]) 2 ∧
 (D.len q +
 D.len
 (D.slc (D.hd (hs 0 0)) 2
 [[D.int .i64 1,D.int .i64 (D.getInt l (Int.toNat z) 0)]])) *
 16 ≤
 140737488355328 ∧
 D.len q +
 D.len
 (D.slc (D.hd (hs 0 0)) 2
 [[D.int .i64 1,D.int .i64 (D.getInt l (Int.toNat z) 0)]]) ≤
 9223372036854775807)
 (.all fun hs_1 =>
 .need (0 ≤ D.getInt l (Int.toNat z) 0 ∧ D.getInt l (Int.toNat z) 0 < (↑(D.len p) : Int) ∧ D.sz p = 1)
 (.need (Int.toNat (D.getInt l (Int.toNat z) 0) < D.len p ∧ 1 ≤ D.sz p ∧ D.sz p = 1)
 (.leaf
 (Conf.mk
 (SFrm.mk 53 none none [Item.inLoop (cAt Try.prog 53 [1,0,0]),Item.inBlock 0]
 (mkJ 1
 [(1,SV.fn 46 [.ptr 0 0] []),(6,.vec 1),(7,.int .i64 (↑(D.len l) : Int)),
 (8,.int .i64 (IntKind.wrap .i64 (z + 1)))]
 0 16))
 [SFrm.mk 23 (some (opsAt Try.prog 23 [1,1,1,1,1,1,1,1,1,1,1,0],[])) (some 99)
 [Item.code (cAt Try.prog 23 [1,1,1,1,1,1,1,1,1,1,1,1])]
 (mkJ 0 [(4,.ptr 2 0),(7,.ptr 0 0),(13,.vec 1)] 0 105)]
 [(0,OBlk.cells 91 [.vec 3,.vec 4,.dat u,.vec 5,.nils,.nils,.lb false]),
 (1,OBlk.arr 3 l),(2,OBlk.cells 28 [.nils,.nils,.nils,.nils,.nils,.lb false]),
 (3,OBlk.arr 4 (D.setCells p (Int.toNat (D.getInt l (Int.toNat z) 0)) 0 [D.bool true])),
 (4,OBlk.arr 3 a),
 (5,
 OBlk.arr 108
 (D.slc (D.hd (hs_1 0 0)) 2
 (List.append (D.rows q)
 (D.rows
 (D.slc (D.hd (hs 0 0)) 2
 [[D.int .i64 1,D.int .i64 (D.getInt l (Int.toNat z) 0)]])))))])))))))
 (.ret
 (SV.tup [.agg [.dat a,.dat u,.dat q,.nils,.nils,.lb false],.dat l,.int .i64 0])) := by kernel_rfl

end
end Go.Proofs.Ytodhhmjilnfecaa
end
section
open Go Go.Proofs Sx
namespace Go.Proofs.Ytodhhmjilnfecaa
set_option maxRecDepth 100000
set_option maxHeartbeats 0
theorem ctGrOk : Ctrs.Ok Try.prog ctGr := by
 intro x hx
 simp only [ctGr,List.mem_cons,List.not_mem_nil,or_false] at hx
 rcases hx with rfl | rfl
 ·exact vCtr_ok lawHasB
 ·exact ctrUna
theorem ea_loop {H : HV} {w : World} {l u p a q : D} {S : List Int} {W : List Wt} {Q : List Ev} {L : List Int} (ha : a.Is Int ∧ a.to Int = S) (hu : u.Is Wt ∧ u.to Wt = W) (hq : q.Is Ev ∧ q.to Ev = Q ∧ q.sz = 2) (hp : p.Is Bool)
  (hl : l.Is Int ∧ l.to Int = L) (hL : ∀ v,v ∈ L → 0 ≤ v ∧ v < (p.len : Int)) (hQ : Q.length ≤ 1048576) (hLl : L.length ≤ 1048576) :
  Runs Try.prog ⟨w,H⟩ (eaL l u p a q 0) (RetD w H fun ds=>.tup [grSV ds ⟨⟨S,W,Q ++ L.map (Ev.mk 1)⟩,[],[],false⟩,.dat ((ds 5).like L),.int .i64 0]) := by
 have ll := D.Is.length (α := Int) l
 have pl0 := D.Is.length (α := Bool) p
 refine runs_loop (fun s : Nat × D × D=>eaL l u s.2.1 a s.2.2 s.1) (fun s=>s.1 ≤ L.length ∧ (s.2.1.Is Bool ∧ (s.2.1.to Bool).length = (p.to Bool).length) ∧ s.2.2.Is Ev ∧ s.2.2.to Ev = Q ++ (L.take s.1).map (Ev.mk 1) ∧ s.2.2.sz = 2) (fun s=>L.length - s.1) (fun _=>rfl) ?_ (0,p,q) ⟨Nat.zero_le _,⟨hp,rfl⟩,hq.1,by simp [hq.2.1],hq.2.2⟩
 rintro ⟨j,p',c⟩ ⟨hj,⟨hp',hpl⟩,hc,hct,hcz⟩ ih
 simp only at hj hp' hpl hc hct hcz ih ⊢
 apply goS_sound ctGrOk (fun _=>false) [(46,1000)] 300
 rw [ea_go]
 have pl := D.Is.length (α := Bool) p'
 have cl2 := D.Is.length (α := Ev) c
 rw [hct,List.length_append,List.length_map,List.length_take] at cl2
 refine ⟨fun hjc=>?_,fun hjc=>?_⟩
 ·have hjc : j < L.length := by have := of_decide_eq_true hjc; rw [hl.2] at ll; omega
  have hjy : j < (l.to Int).length := by rw [hl.2]; exact hjc
  obtain ⟨c1,c2,c3⟩ := int_at hl.1 hjy
  have he : (l.to Int)[j] = L[j] := by simp only [hl.2]
  have hv := hL (L[j]) (List.getElem_mem hjc)
  have htk := List.take_succ_eq_append_getElem hjc
  rw [c3,he]
  generalize L[j] = v at *
  have hvi : v.toNat < (p'.to Bool).length := by omega
  have hz := hp'.size hvi
  have hset := set_full hp' hvi (xs := [D.bool true]) (x := true) rfl (ok_bool true) rfl
  refine ⟨c1,⟨c2,c1.2.2⟩,fun hs=>⟨⟨hcz,.inr rfl,by simp only [len_slc,List.length_cons,List.length_nil]; omega,by simp only [len_slc,List.length_cons,List.length_nil]; omega⟩,fun hs1=>⟨⟨hv.1,by omega,hz⟩,⟨by omega,by rw [hz]; exact Nat.le_refl 1,hz⟩,?_⟩⟩⟩
  have hap : (D.slc (hs1 0 0).hd 2 (List.append (D.rows c) (D.rows (D.slc (hs 0 0).hd 2 [[D.int IntKind.i64 1,D.int IntKind.i64 v]])))).Is Ev ∧ (D.slc (hs1 0 0).hd 2 (List.append (D.rows c) (D.rows (D.slc (hs 0 0).hd 2 [[D.int IntKind.i64 1,D.int IntKind.i64 v]])))).to Ev = c.to Ev ++ [⟨1,v⟩] :=
   is_of rfl ⟨fun r hr=>by
    rcases List.mem_append.1 hr with h | h
    ·exact (rows_of hc).1 r h
    ·rw [List.mem_singleton.1 h]; exact ⟨_,_,rfl⟩,by simp only [append_list,List.map_append,(rows_of hc).2]; rfl⟩
  have := ih (j + 1,p'.setCells v.toNat 0 [D.bool true],_) ⟨hjc,⟨hset.1,by rw [hset.2,List.length_set]; exact hpl⟩,hap.1,by
   rw [hap.2,hct,htk,List.map_append,List.append_assoc]; rfl,rfl⟩ (by simp only; omega)
  simp only at this
  rw [← wrap_succ hjc (by omega)] at this
  exact this
 ·have : j = L.length := by have := of_decide_eq_false hjc; rw [hl.2] at ll; omega
  subst this
  rw [List.take_length] at hct
  exact ret_grLI (stands_gr (stands_dat ha.1 ha.2) (stands_dat hu.1 hu.2) (stands_dat hc hct) stands_nils stands_nils (fun _=>rfl) rfl) (stands_dat hl.1 hl.2) rfl
end Go.Proofs.Ytodhhmjilnfecaa
end
section
open Go Go.Proofs Sx
namespace Go.Proofs.Ytodhhmjilnfecaa
set_option maxRecDepth 100000
set_option maxHeartbeats 0
noncomputable def ctRX : Ctrs := [(31,ctrOf (rdGr.one.sp spCkG)),(42,ctrOf ((rdHi.two rdWt).sp spIssueH)),(43,oCtr (spCpd 3)),(49,oCtr (spWo 3)),(47,ctrOf ((rdD.two rdInt).sp spHas)),(48,ctrOf (rdHi.one.sp spCopy)),
 (50,ctrOf ((rdHi.two rdInt).sp spAckH)),(58,ctrOf ((rdHi.two rdInt).sp spAckd)),(34,ctrOf (rdInt.one.sp spFst)),(52,ctrOf ((rdD.two rdD).sp spInts)),(59,ctrOf ((rdHi.two rdD).sp spRest))]
section
variable (ha hb hc wt hd d : D) (fz : Bool) (v s n : Int)
theorem ris_in : exec Try.prog ctRX 300 (entry Try.prog 14 [.agg [.dat ha,.dat hb,.dat hc,.dat wt,.dat hd,.bool fz],.agg [.int .i64 v,.int .i64 s,.dat d]]) =
 Tree.need (GrD.Right (GrD.mk (HiD.mk ha hb hc) wt hd fz))
 (.br (openErr (GrD.gr (GrD.mk (HiD.mk ha hb hc) wt hd fz)) != 0)
 (.ret
 (SV.tup
 [.agg [.nils,.nils,.nils,.nils,.nils,.lb false],.int .i64 0,
 .int .i64 (openErr (GrD.gr (GrD.mk (HiD.mk ha hb hc) wt hd fz)))]))
 (.need (HiD.Right (HiD.mk ha hb hc) ∧ D.len hc ≤ 1000000 ∧ WtD.Ok (WtD.mk v s d))
 (.all fun hs =>
 .br (Prod.snd (Prod.snd (issueH (HiD.hist (HiD.mk ha hb hc)) (WtD.wt (WtD.mk v s d)))) != 0)
 (.ret
 (SV.tup
 [.agg [.nils,.nils,.nils,.nils,.nils,.lb false],.int .i64 0,
 .int .i64
 (Prod.snd (Prod.snd (issueH (HiD.hist (HiD.mk ha hb hc)) (WtD.wt (WtD.mk v s d)))))]))
 (.all fun hs_1 =>
 .need
 (D.Is Int wt ∧
 D.Is Int
 (D.slc (D.hd (hs_1 4 0)) 1
 [[D.int .i64
 (Prod.fst (Prod.snd (issueH (HiD.hist (HiD.mk ha hb hc)) (WtD.wt (WtD.mk v s d)))))]]) ∧
 D.len wt ≤ 1048576 ∧
 D.len
 (D.slc (D.hd (hs_1 4 0)) 1
 [[D.int .i64
 (Prod.fst (Prod.snd (issueH (HiD.hist (HiD.mk ha hb hc)) (WtD.wt (WtD.mk v s d)))))]]) ≤
 1048576)
 (.need (D.Is Int hd ∧ D.Is Int (D.slc none 0 []) ∧ D.len hd ≤ 1048576 ∧ 0 ≤ 1048576)
 (.ret
 (SV.tup
 [.agg
 [.dat
 (D.like (hs 0 0)
 (Hist.sizes (Prod.fst (issueH (HiD.hist (HiD.mk ha hb hc)) (WtD.wt (WtD.mk v s d)))))),
 .dat
 (D.like (hs 0 1)
 (Hist.writes (Prod.fst (issueH (HiD.hist (HiD.mk ha hb hc)) (WtD.wt (WtD.mk v s d)))))),
 .dat
 (D.like (hs 0 2)
 (Hist.events (Prod.fst (issueH (HiD.hist (HiD.mk ha hb hc)) (WtD.wt (WtD.mk v s d)))))),
 .dat
 (D.slc (D.hd (hs_1 5 0)) 1
 (List.map (fun n=>[D.int .i64 n])
 (List.append (D.to Int wt)
 (D.to Int
 (D.slc (D.hd (hs_1 4 0)) 1
 [[D.int .i64
 (Prod.fst
 (Prod.snd
 (issueH (HiD.hist (HiD.mk ha hb hc)) (WtD.wt (WtD.mk v s d)))))]]))))),
 .dat
 (D.slc (D.hd (hs_1 8 0)) 1
 (List.map (fun n=>[D.int .i64 n])
 (List.append (D.to Int hd) (D.to Int (D.slc none 0 []))))),
 .bool fz],
 .int .i64
 (Prod.fst (Prod.snd (issueH (HiD.hist (HiD.mk ha hb hc)) (WtD.wt (WtD.mk v s d))))),
 .int .i64 0]))))))) := by kernel_rfl

theorem rdu_in : exec Try.prog ctRX 300 (entry Try.prog 16 [.agg [.dat ha,.dat hb,.dat hc,.dat wt,.dat hd,.bool fz],.int .i64 n]) =
 Tree.need (GrD.Right (GrD.mk (HiD.mk ha hb hc) wt hd fz))
 (.br (openErr (GrD.gr (GrD.mk (HiD.mk ha hb hc) wt hd fz)) != 0)
 (.ret
 (SV.tup
 [.agg [.nils,.nils,.nils,.nils,.nils,.lb false],.nils,
 .int .i64 (openErr (GrD.gr (GrD.mk (HiD.mk ha hb hc) wt hd fz)))]))
 (.need (D.Is Int wt ∧ D.len wt ≤ 1048576)
 (.br (!List.contains (D.to Int wt) n)
 (.ret
 (SV.tup [.agg [.nils,.nils,.nils,.nils,.nils,.lb false],.nils,.int .i64 7]))
 (.all fun hs =>
 .need (HiD.Right (HiD.mk ha hb hc))
 (.need (D.Is Int wt ∧ D.len wt ≤ 1048576)
 (.need (D.Is Int hd ∧ D.Is Int (D.slc none 0 []) ∧ D.len hd ≤ 1048576 ∧ 0 ≤ 1048576)
 (.br fz
 (.all fun hs_1 =>
 .need
 (D.Is Int hd ∧
 D.Is Int (D.slc (D.hd (hs_1 0 0)) 1 [[D.int .i64 n]]) ∧
 D.len hd ≤ 1048576 ∧ D.len (D.slc (D.hd (hs_1 0 0)) 1 [[D.int .i64 n]]) ≤ 1048576)
 (.all fun hs_2 =>
 .ret
 (SV.tup
 [.agg
 [.dat (D.like (hs 2 0) (D.to Int ha)),.dat (D.like (hs 2 1) (D.to Wt hb)),
 .dat (D.like (hs 2 2) (D.to Ev hc)),
 .dat
 (D.slc (D.hd (hs 6 0)) 1
 (List.map (fun n=>[D.int .i64 n]) (withoutI (D.to Int wt) n))),
 .dat
 (D.slc (D.hd (hs_2 0 0)) 1
 (List.map (fun n=>[D.int .i64 n])
 (List.append (D.to Int hd)
 (D.to Int (D.slc (D.hd (hs_1 0 0)) 1 [[D.int .i64 n]]))))),
 .bool fz],
 .nils,.int .i64 0])))
 (.need (HiD.Right (HiD.mk ha hb hc) ∧ D.len hc ≤ 1000000)
 (.all fun hs_1 =>
 .all fun hs_2 =>
 .ret
 (SV.tup
 [.agg
 [.dat
 (D.like (hs_1 0 0) (Hist.sizes (Prod.fst (ackH (HiD.hist (HiD.mk ha hb hc)) n)))),
 .dat
 (D.like (hs_1 0 1) (Hist.writes (Prod.fst (ackH (HiD.hist (HiD.mk ha hb hc)) n)))),
 .dat
 (D.like (hs_1 0 2) (Hist.events (Prod.fst (ackH (HiD.hist (HiD.mk ha hb hc)) n)))),
 .dat
 (D.slc (D.hd (hs 6 0)) 1
 (List.map (fun n=>[D.int .i64 n]) (withoutI (D.to Int wt) n))),
 .dat
 (D.slc (D.hd (hs 9 0)) 1
 (List.map (fun n=>[D.int .i64 n])
 (List.append (D.to Int hd) (D.to Int (D.slc none 0 []))))),
 .bool fz],
 .dat (D.slc (D.hd (hs_2 0 0)) 1 [[D.int .i64 n]]),
 .int .i64 0])))))))))) := by kernel_rfl

theorem rfz_in : exec Try.prog ctRX 300 (entry Try.prog 20 [.agg [.dat ha,.dat hb,.dat hc,.dat wt,.dat hd,.bool fz]]) =
 Tree.need (GrD.Right (GrD.mk (HiD.mk ha hb hc) wt hd fz))
 (.br (openErr (GrD.gr (GrD.mk (HiD.mk ha hb hc) wt hd fz)) != 0)
 (.ret
 (SV.tup
 [.agg [.nils,.nils,.nils,.nils,.nils,.lb false],.int .i64 0,
 .int .i64 (openErr (GrD.gr (GrD.mk (HiD.mk ha hb hc) wt hd fz)))]))
 (.br fz
 (.ret
 (SV.tup
 [.agg [.nils,.nils,.nils,.nils,.nils,.lb false],.int .i64 0,
 .int .i64 26]))
 (.all fun hs =>
 .need (HiD.Right (HiD.mk ha hb hc))
 (.need (D.Is Int wt ∧ D.Is Int (D.slc none 0 []) ∧ D.len wt ≤ 1048576 ∧ 0 ≤ 1048576)
 (.ret
 (SV.tup
 [.agg
 [.dat (D.like (hs 2 0) (D.to Int ha)),.dat (D.like (hs 2 1) (D.to Wt hb)),
 .dat (D.like (hs 2 2) (D.to Ev hc)),
 .dat
 (D.slc (D.hd (hs 5 0)) 1
 (List.map (fun n=>[D.int .i64 n])
 (List.append (D.to Int wt) (D.to Int (D.slc none 0 []))))),
 .nils,.lb true],
 .int .i64 (↑(D.len hb) : Int),.int .i64 0])))))) := by kernel_rfl

theorem rth_in : exec Try.prog ctRX 300 (entry Try.prog 22 [.agg [.dat ha,.dat hb,.dat hc,.dat wt,.dat hd,.bool fz]]) =
 Tree.need (GrD.Right (GrD.mk (HiD.mk ha hb hc) wt hd fz))
 (.br (openErr (GrD.gr (GrD.mk (HiD.mk ha hb hc) wt hd fz)) != 0)
 (.ret
 (SV.tup
 [.agg [.nils,.nils,.nils,.nils,.nils,.lb false],.nils,
 .int .i64 (openErr (GrD.gr (GrD.mk (HiD.mk ha hb hc) wt hd fz)))]))
 (.br (!fz)
 (.ret
 (SV.tup [.agg [.nils,.nils,.nils,.nils,.nils,.lb false],.nils,.int .i64 12]))
 (.need (HiD.Right (HiD.mk ha hb hc))
 (.all fun hs =>
 .leaf
 (Conf.mk
 (SFrm.mk 22 none none
 [Item.inLoop (cAt Try.prog 22 [1,1,1,1,0,1,0,0]),Item.inBlock 0,
 Item.code (cAt Try.prog 22 [1,1,1,1,1])]
 (mkJ 0 [(1,.ptr 0 0),(2,.ptr 1 0),(6,.ptr 2 0),(7,.int .i64 0)] 0 46))
 []
 [(0,OBlk.cells 28 [.dat ha,.dat hb,.dat hc,.dat wt,.dat hd,.bool fz]),
 (1,OBlk.cells 28 [.nils,.nils,.nils,.nils,.nils,.lb false]),
 (2,
 OBlk.cells 26
 [.dat (D.like (hs 0 0) (D.to Int ha)),.dat (D.like (hs 0 1) (D.to Wt hb)),
 .dat (D.like (hs 0 2) (D.to Ev hc))])]))))) := by kernel_rfl

theorem rrc_in : exec Try.prog ctRX 300 (entry Try.prog 24 [.agg [.dat ha,.dat hb,.dat hc,.dat wt,.dat hd,.bool fz],.dat d]) =
 Tree.need (GrD.Right (GrD.mk (HiD.mk ha hb hc) wt hd fz))
 (.br (openErr (GrD.gr (GrD.mk (HiD.mk ha hb hc) wt hd fz)) != 0)
 (.ret
 (SV.tup
 [.agg [.nils,.nils,.nils,.nils,.nils,.lb false],.nils,
 .int .i64 (openErr (GrD.gr (GrD.mk (HiD.mk ha hb hc) wt hd fz)))]))
 (.br (decide ((↑(D.len d) : Int) > (↑(D.len hb) : Int)))
 (.ret
 (SV.tup [.agg [.nils,.nils,.nils,.nils,.nils,.lb false],.nils,.int .i64 27]))
 (.need ((↑(D.len d) : Int) ≤ 1000000)
 (.all fun hs =>
 .need (D.Is Int d ∧ D.Is Int (D.like (hs 0 0) (firstN (↑(D.len d) : Int))) ∧ D.len d ≤ 1048576)
 (.br (!decide (D.to Int d = D.to Int (D.like (hs 0 0) (firstN (↑(D.len d) : Int)))))
 (.ret
 (SV.tup
 [.agg [.nils,.nils,.nils,.nils,.nils,.lb false],.nils,.int .i64 27]))
 (.leaf
 (Conf.mk
 (SFrm.mk 24 none none
 [Item.inLoop (cAt Try.prog 24 [1,1,1,1,0,1,0,0]),Item.inBlock 0,
 Item.code (cAt Try.prog 24 [1,1,1,1,1])]
 (mkJ 0
 [(1,.dat d),(2,.ptr 0 0),(4,.ptr 1 0),(8,.int .i64 (↑(D.len d) : Int)),
 (9,.int .i64 (↑(D.len d) : Int))]
 0 79))
 []
 [(0,OBlk.cells 28 [.dat ha,.dat hb,.dat hc,.dat wt,.dat hd,.bool fz]),
 (1,OBlk.cells 28 [.nils,.nils,.nils,.nils,.nils,.lb false])]))))))) := by kernel_rfl

end
end Go.Proofs.Ytodhhmjilnfecaa
end
section
open Go Go.Proofs Sx
namespace Go.Proofs.Ytodhhmjilnfecaa
set_option maxRecDepth 100000
set_option maxHeartbeats 0
noncomputable def rthL (ha hb hc wt hd a b c : D) (fz : Bool) (j : Int) : Conf := Conf.mk (SFrm.mk 22 none none [Item.inLoop (cAt Try.prog 22 [1,1,1,1,0,1,0,0]),Item.inBlock 0,Item.code (cAt Try.prog 22 [1,1,1,1,1])] (mkJ 0 [(1,.ptr 0 0),(2,.ptr 1 0),(6,.ptr 2 0),(7,.int .i64 j)] 0 46)) [] [(0,OBlk.cells 28 [.dat ha,.dat hb,.dat hc,.dat wt,.dat hd,.bool fz]),(1,OBlk.cells 28 [.nils,.nils,.nils,.nils,.nils,.lb false]),(2,OBlk.cells 26 [.dat a,.dat b,.dat c])]
noncomputable def rrcA (ha hb hc wt hd d : D) (fz : Bool) (p j : Int) : Conf := Conf.mk (SFrm.mk 24 none none [Item.inLoop (cAt Try.prog 24 [1,1,1,1,0,1,0,0]),Item.inBlock 0,Item.code (cAt Try.prog 24 [1,1,1,1,1])] (mkJ 0 [(1,.dat d),(2,.ptr 0 0),(4,.ptr 1 0),(8,.int .i64 p),(9,.int .i64 j)] 0 79)) [] [(0,OBlk.cells 28 [.dat ha,.dat hb,.dat hc,.dat wt,.dat hd,.bool fz]),(1,OBlk.cells 28 [.nils,.nils,.nils,.nils,.nils,.lb false])]
section
variable (ha hb hc wt hd a b c d : D) (fz : Bool) (p j : Int)
theorem rth_go : exec Try.prog ctRX 300 (unroll (rthL ha hb hc wt hd a b c fz j)) =
 Tree.br (decide (j < (↑(D.len hd) : Int)))
 (.all fun hs =>
 .need (0 ≤ j ∧ j < (↑(D.len hd) : Int) ∧ D.sz hd = 1)
 (.need (D.HasCell hd (Int.toNat j) 0 (FT.int .i64))
 (.need (HiD.Right (HiD.mk a b c) ∧ D.len c ≤ 1000000)
 (.leaf
 (Conf.mk
 (SFrm.mk 22 none none
 [Item.inLoop (cAt Try.prog 22 [1,1,1,1,0,1,0,0]),Item.inBlock 0,
 Item.code (cAt Try.prog 22 [1,1,1,1,1])]
 (mkJ 0
 [(1,.ptr 0 0),(2,.ptr 1 0),(6,.ptr 2 0),
 (7,.int .i64 (IntKind.wrap .i64 (j + 1)))]
 0 46))
 []
 [(0,OBlk.cells 28 [.dat ha,.dat hb,.dat hc,.dat wt,.dat hd,.bool fz]),
 (1,OBlk.cells 28 [.nils,.nils,.nils,.nils,.nils,.lb false]),
 (2,
 OBlk.cells 26
 [.dat
 (D.like (hs 6 0)
 (Hist.sizes (Prod.fst (ackH (HiD.hist (HiD.mk a b c)) (D.getInt hd (Int.toNat j) 0))))),
 .dat
 (D.like (hs 6 1)
 (Hist.writes (Prod.fst (ackH (HiD.hist (HiD.mk a b c)) (D.getInt hd (Int.toNat j) 0))))),
 .dat
 (D.like (hs 6 2)
 (Hist.events
 (Prod.fst (ackH (HiD.hist (HiD.mk a b c)) (D.getInt hd (Int.toNat j) 0)))))])])))))
 (.all fun hs =>
 .need (D.Is Int wt ∧ D.Is Int (D.slc none 0 []) ∧ D.len wt ≤ 1048576 ∧ 0 ≤ 1048576)
 (.need (D.Is Int hd ∧ D.Is Int (D.slc none 0 []) ∧ D.len hd ≤ 1048576 ∧ 0 ≤ 1048576)
 (.ret
 (SV.tup
 [.agg
 [.dat a,.dat b,.dat c,
 .dat
 (D.slc (D.hd (hs 3 0)) 1
 (List.map (fun n=>[D.int .i64 n])
 (List.append (D.to Int wt) (D.to Int (D.slc none 0 []))))),
 .nils,.lb false],
 .dat
 (D.slc (D.hd (hs 7 0)) 1
 (List.map (fun n=>[D.int .i64 n]) (List.append (D.to Int hd) (D.to Int (D.slc none 0 []))))),
 .int .i64 0])))) := by kernel_rfl

theorem rrca_go : exec Try.prog ctRX 300 (unroll (rrcA ha hb hc wt hd d fz p j)) =
 Tree.br (decide (j < (↑(D.len hb) : Int)))
 (.need (D.Is Ev hc ∧ D.len hc ≤ 1048576)
 (.br (decide (atEv (D.to Ev hc) (Ev.mk 1 j) ≥ 0))
 (.ret
 (SV.tup [.agg [.nils,.nils,.nils,.nils,.nils,.lb false],.nils,.int .i64 27]))
 (.leaf
 (Conf.mk
 (SFrm.mk 24 none none
 [Item.inLoop (cAt Try.prog 24 [1,1,1,1,0,1,0,0]),Item.inBlock 0,
 Item.code (cAt Try.prog 24 [1,1,1,1,1])]
 (mkJ 0
 [(1,.dat d),(2,.ptr 0 0),(4,.ptr 1 0),(8,.int .i64 p),
 (9,.int .i64 (IntKind.wrap .i64 (j + 1)))]
 0 79))
 []
 [(0,OBlk.cells 28 [.dat ha,.dat hb,.dat hc,.dat wt,.dat hd,.bool fz]),
 (1,OBlk.cells 28 [.nils,.nils,.nils,.nils,.nils,.lb false])]))))
 (.need (HiD.Right (HiD.mk ha hb hc) ∧ D.Is Int d ∧ D.len d ≤ 1048576)
 (.all fun hs =>
 .leaf
 (Conf.mk
 (SFrm.mk 24 none none
 [Item.inLoop (cAt Try.prog 24 [1,1,1,1,1,1,1,0,1,0,0]),Item.inBlock 2,
 Item.code (cAt Try.prog 24 [1,1,1,1,1,1,1,1])]
 (mkJ 0
 [(4,.ptr 0 0),(8,.int .i64 p),(10,.ptr 1 0),(12,.nils),(13,.int .i64 0)]
 0 79))
 []
 [(0,OBlk.cells 28 [.nils,.nils,.nils,.nils,.nils,.lb false]),
 (1,
 OBlk.cells 26
 [.dat (D.like (hs 0 0) (Hist.sizes (Prod.fst (restrictH (HiD.hist (HiD.mk ha hb hc)) (D.to Int d))))),
 .dat
 (D.like (hs 0 1) (Hist.writes (Prod.fst (restrictH (HiD.hist (HiD.mk ha hb hc)) (D.to Int d))))),
 .dat
 (D.like (hs 0 2)
 (Hist.events (Prod.fst (restrictH (HiD.hist (HiD.mk ha hb hc)) (D.to Int d)))))])]))) := by kernel_rfl

end
end Go.Proofs.Ytodhhmjilnfecaa
end
section
open Go Go.Proofs Sx
namespace Go.Proofs.Ytodhhmjilnfecaa
set_option maxRecDepth 100000
set_option maxHeartbeats 0
noncomputable def rrcB (a b c r : D) (p j : Int) : Conf := Conf.mk (SFrm.mk 24 none none [Item.inLoop (cAt Try.prog 24 [1,1,1,1,1,1,1,0,1,0,0]),Item.inBlock 2,Item.code (cAt Try.prog 24 [1,1,1,1,1,1,1,1])] (mkJ 0 [(4,.ptr 0 0),(8,.int .i64 p),(10,.ptr 1 0),(12,.vec 2),(13,.int .i64 j)] 0 79)) [] [(0,OBlk.cells 28 [.nils,.nils,.nils,.nils,.nils,.lb false]),(1,OBlk.cells 26 [.dat a,.dat b,.dat c]),(2,OBlk.arr 3 r)]
section
variable (a b c r : D) (p j : Int)
theorem rrcb_go : exec Try.prog ctRX 300 (unroll (rrcB a b c r p j)) =
 Tree.br (decide (j < p))
 (.need (D.Is Ev c ∧ D.len c ≤ 1048576)
 (.br (!decide (atEv (D.to Ev c) (Ev.mk 1 j) ≥ 0))
 (.need (HiD.Right (HiD.mk a b c) ∧ D.len c ≤ 1000000)
 (.all fun hs =>
 .all fun hs_1 =>
 .need
 (D.sz r = 1 ∧
 D.Fits (D.slc (D.hd (hs_1 0 0)) 1 [[D.int .i64 j]]) 1 ∧
 (D.len r + D.len (D.slc (D.hd (hs_1 0 0)) 1 [[D.int .i64 j]])) * 8 ≤ 140737488355328 ∧
 D.len r + D.len (D.slc (D.hd (hs_1 0 0)) 1 [[D.int .i64 j]]) ≤ 9223372036854775807)
 (.all fun hs_2 =>
 .leaf
 (Conf.mk
 (SFrm.mk 24 none none
 [Item.inLoop (cAt Try.prog 24 [1,1,1,1,1,1,1,0,1,0,0]),Item.inBlock 2,
 Item.code (cAt Try.prog 24 [1,1,1,1,1,1,1,1])]
 (mkJ 0
 [(4,.ptr 0 0),(8,.int .i64 p),(10,.ptr 1 0),(12,.vec 2),
 (13,.int .i64 (IntKind.wrap .i64 (j + 1)))]
 0 79))
 []
 [(0,OBlk.cells 28 [.nils,.nils,.nils,.nils,.nils,.lb false]),
 (1,
 OBlk.cells 26
 [.dat (D.like (hs 0 0) (Hist.sizes (Prod.fst (ackH (HiD.hist (HiD.mk a b c)) j)))),
 .dat (D.like (hs 0 1) (Hist.writes (Prod.fst (ackH (HiD.hist (HiD.mk a b c)) j)))),
 .dat (D.like (hs 0 2) (Hist.events (Prod.fst (ackH (HiD.hist (HiD.mk a b c)) j))))]),
 (2,
 OBlk.arr 3
 (D.slc (D.hd (hs_2 0 0)) 1
 (List.append (D.rows r) (D.rows (D.slc (D.hd (hs_1 0 0)) 1 [[D.int .i64 j]])))))]))))
 (.leaf
 (Conf.mk
 (SFrm.mk 24 none none
 [Item.inLoop (cAt Try.prog 24 [1,1,1,1,1,1,1,0,1,0,0]),Item.inBlock 2,
 Item.code (cAt Try.prog 24 [1,1,1,1,1,1,1,1])]
 (mkJ 0
 [(4,.ptr 0 0),(8,.int .i64 p),(10,.ptr 1 0),(12,.vec 2),
 (13,.int .i64 (IntKind.wrap .i64 (j + 1)))]
 0 79))
 []
 [(0,OBlk.cells 28 [.nils,.nils,.nils,.nils,.nils,.lb false]),
 (1,OBlk.cells 26 [.dat a,.dat b,.dat c]),(2,OBlk.arr 3 r)]))))
 (.ret
 (SV.tup [.agg [.dat a,.dat b,.dat c,.nils,.nils,.lb false],.dat r,.int .i64 0])) := by kernel_rfl

end
end Go.Proofs.Ytodhhmjilnfecaa
end
section
open Go Go.Proofs Sx
namespace Sx
theorem shift_getD {P : Program} {C : Ctx} {R : Value → World → Prop} (B : Nat) {c : Conf} (h : Runs P C ((shiftC B c).getD c) R) : Runs P C c R := by
 cases hs : shiftC B c with
 | none=>rw [hs] at h; exact h
 | some c'=>rw [hs] at h; exact shift_to B c' hs h
def keepE (n : Int) (l : List Ev) : List Ev := l.filter fun x=>!decide (x.write ≥ n)
theorem keepE_succ {n : Int} {l : List Ev} {j : Nat} (hj : j < l.length) : keepE n (l.take (j + 1)) = if l[j].write ≥ n then keepE n (l.take j) else keepE n (l.take j) ++ [l[j]] := by
 unfold keepE
 rw [List.take_succ_eq_append_getElem hj,List.filter_append]
 by_cases h : l[j].write ≥ n
 ·rw [if_pos h]; simp [List.filter_cons,h]
 ·rw [if_neg h]; simp [List.filter_cons,h]
theorem una_ints (l : List Int) (h : Hd) : (D.slc h 1 (l.map fun n=>[D.int .i64 n])).Is Int ∧ (D.slc h 1 (l.map fun n=>[D.int .i64 n])).to Int = l := by
 refine ⟨⟨_,_,_,rfl,.inr rfl,fun r hr=>?_⟩,?_⟩
 ·obtain ⟨n,_,rfl⟩ := List.mem_map.1 hr; exact ⟨n,rfl⟩
 ·simp only [D.to,D.rows,List.map_map]
  conv=>rhs; rw [← List.map_id l]
  exact List.map_congr_left fun n _=>rfl
end Sx
namespace Go.Proofs.Ytodhhmjilnfecaa
set_option maxRecDepth 100000
set_option maxHeartbeats 0
section
variable {H : HV} {w : World} {R : Value → World → Prop} {N : Nat} {u p a x y : D} {fz : Bool} {E0 : List Ev} (hp : p.Is Bool) (hN : N ≤ p.len) (hpl : p.len ≤ 1048576) (hE : E0.length ≤ 1048576)
 (next : ∀ l q : D,(l.Is Int ∧ l.to Int = unackN (p.to Bool) N) → (q.Is Ev ∧ q.to Ev = keepE N E0 ∧ q.sz = 2) → Runs Try.prog ⟨w,H⟩ (eaA l u p a q) R)
include hp hN hpl hE next
theorem del_end {c : D} {i : Nat} (hc : c.Is Ev) (hz : c.sz = 2) (hi : i ≤ c.len) (hcl : c.len ≤ 1048576) (ht : (c.to Ev).take i = keepE N E0) : Runs Try.prog ⟨w,H⟩ (dfE N u c p a x y fz i) R := by
 apply shift_getD 2000
 refine goS_sound ctGrOk (fun _=>false) [(53,6)] 300 _ ?_
 rw [ds_go]
 have hr : ∀ k : Nat,k ≤ c.len → (D.slc (D.hd c) (D.sz c) (List.append (List.take (Int.toNat (i : Int)) (D.rows c)) (List.append (List.replicate (D.len c - Int.toNat (i : Int)) [D.int IntKind.i64 0,D.int IntKind.i64 0]) (List.drop (Int.toNat (i : Int) + (D.len c - Int.toNat (i : Int))) (D.rows c))))).len = c.len := fun k hk=>by
  simp only [len_slc,append_list,List.length_append,List.length_take,List.length_replicate,List.length_drop,Int.toNat_natCast]
  unfold D.len at hi ⊢; omega
 refine ⟨⟨by omega,by omega,hc.fits⟩,⟨rfl,hz,by omega,by omega⟩,⟨by omega,by rw [hr 0 (Nat.zero_le _)]; omega,.inr hz⟩,fun hs=>⟨⟨hp,by omega,by omega,hpl⟩,?_⟩⟩
 refine next _ _ (una_ints _ _) ?_
 have e : List.take (Int.toNat (i : Int)) (D.rows (D.slc (D.hd c) (D.sz c) (List.append (List.take (Int.toNat (i : Int)) (D.rows c)) (List.append (List.replicate (D.len c - Int.toNat (i : Int)) [D.int IntKind.i64 0,D.int IntKind.i64 0]) (List.drop (Int.toNat (i : Int) + (D.len c - Int.toNat (i : Int))) (D.rows c)))))) = (D.rows c).take i := by
  rw [rows_slc,append_list,Int.toNat_natCast,List.take_append_of_le_length (by rw [List.length_take]; unfold D.len at hi; omega),List.take_take,Nat.min_self]
 rw [e]
 have hr2 := rows_of hc
 refine ⟨?_,?_,hz⟩
 ·exact is_rows hz fun r hr=>hr2.1 r (List.mem_of_mem_take hr)
 ·rw [← ht,to_slc,List.map_take,hr2.2]
theorem del_loop {c : D} {i j : Nat} (hc : c.Is Ev) (hz : c.sz = 2) (hcl : (c.to Ev).length = E0.length) (hij : i ≤ j) (hj : j ≤ E0.length) (ht : (c.to Ev).take i = keepE N (E0.take j)) (hd : (c.to Ev).drop j = E0.drop j) :
  Runs Try.prog ⟨w,H⟩ (dfL N u c p a x y fz i j) R := by
 refine runs_loop (fun s : D × Nat × Nat=>dfL N u s.1 p a x y fz s.2.1 s.2.2) (fun s=>s.1.Is Ev ∧ s.1.sz = 2 ∧ (s.1.to Ev).length = E0.length ∧ s.2.1 ≤ s.2.2 ∧ s.2.2 ≤ E0.length ∧ (s.1.to Ev).take s.2.1 = keepE N (E0.take s.2.2) ∧ (s.1.to Ev).drop s.2.2 = E0.drop s.2.2)
  (fun s=>E0.length - s.2.2) (fun _=>rfl) ?_ (c,i,j) ⟨hc,hz,hcl,hij,hj,ht,hd⟩
 rintro ⟨c,i,j⟩ ⟨hc,hz,hcl,hij,hj,ht,hd⟩ ih
 simp only at hc hz hcl hij hj ht hd ih ⊢
 have cl := D.Is.length (α := Ev) c
 apply goS_sound ctGrOk (fun _=>false) [(55,36)] 300
 rw [df_go]
 refine ⟨fun h1=>?_,fun h1=>?_⟩
 ·have h1 : j < E0.length := by have := of_decide_eq_true h1; omega
  have h2 : j < (c.to Ev).length := by omega
  obtain ⟨c1,c2,c3⟩ := ev_cell hc h2
  have hx : (c.to Ev)[j] = E0[j] := by
   have e1 : ((c.to Ev).drop j)[0]? = (E0.drop j)[0]? := by rw [hd]
   simpa [h1,h2] using e1
  have wi : IntKind.i64.wrap ((i : Int) + 1) = ((i + 1 : Nat) : Int) := wrap_succ (n := E0.length) (by omega) hE
  have wj : IntKind.i64.wrap ((j : Int) + 1) = ((j + 1 : Nat) : Int) := wrap_succ h1 hE
  have sn := keepE_succ (n := (N : Int)) h1
  rw [wi,wj,Int.toNat_natCast j,c2,c3,hx]
  have hdd : (c.to Ev).drop (j + 1) = E0.drop (j + 1) := by
   have := congrArg (List.drop 1) hd
   simpa [List.drop_drop,Nat.add_comm] using this
  refine ⟨⟨by omega,by omega,hz⟩,⟨c1,hz⟩,fun hk=>⟨⟨by omega,by omega,hz⟩,⟨by rw [Int.toNat_natCast]; omega,by omega,hz⟩,?_⟩,fun hk=>?_⟩
  ·have hk : ¬(E0[j].write ≥ (N : Int)) := by simpa using hk
   rw [if_neg hk] at sn
   have hset := set_full (α := Ev) hc (i := i) (by omega) (xs := [D.int .i64 E0[j].kind,D.int .i64 E0[j].write]) (x := E0[j]) rfl ⟨_,_,rfl⟩ rfl
   refine ih (c.setCells i 0 [D.int .i64 E0[j].kind,D.int .i64 E0[j].write],i + 1,j + 1) ⟨hset.1,hz,by rw [hset.2,List.length_set]; exact hcl,by show i + 1 ≤ j + 1; omega,h1,?_,?_⟩ (by simp only; omega)
   ·rw [hset.2,sn,← ht]
    have hi2 : i < ((c.to Ev).set i E0[j]).length := by rw [List.length_set]; omega
    rw [List.take_succ_eq_append_getElem hi2,List.take_set_of_le (Nat.le_refl _),List.getElem_set_self]
   ·rw [hset.2,List.drop_set_of_lt (show i < j + 1 by omega)]; exact hdd
  ·have hk : E0[j].write ≥ (N : Int) := by simpa using hk
   rw [if_pos hk] at sn
   exact ih (c,i,j + 1) ⟨hc,hz,hcl,by show i ≤ j + 1; omega,h1,by rw [sn]; exact ht,hdd⟩ (by simp only; omega)
 ·have h1 : j = E0.length := by have := of_decide_eq_false h1; omega
  subst h1
  rw [List.take_length] at ht
  exact del_end hp hN hpl hE next hc hz (by omega) (by omega) ht
end
end Go.Proofs.Ytodhhmjilnfecaa
end
section
open Go Go.Proofs Sx
namespace Sx
theorem keepE_all {n : Int} {l : List Ev} {j : Nat} (h : keepE n (l.take j) = l.take j) (hj : j < l.length) (hk : ¬l[j].write ≥ n) : keepE n (l.take (j + 1)) = l.take (j + 1) := by
 rw [keepE_succ hj,if_neg hk,h,List.take_succ_eq_append_getElem hj]
end Sx
namespace Go.Proofs.Ytodhhmjilnfecaa
set_option maxRecDepth 100000
set_option maxHeartbeats 0
theorem dx_run {H : HV} {w : World} {R : Value → World → Prop} {N : Nat} {u p a c x y : D} {fz : Bool} {E0 : List Ev} (hp : p.Is Bool) (hN : N ≤ p.len) (hpl : p.len ≤ 1048576) (hE : E0.length ≤ 1048576)
  (next : ∀ l q : D,(l.Is Int ∧ l.to Int = unackN (p.to Bool) N) → (q.Is Ev ∧ q.to Ev = keepE N E0 ∧ q.sz = 2) → Runs Try.prog ⟨w,H⟩ (eaA l u p a q) R)
  (hc : c.Is Ev) (hz : c.sz = 2) (ht : c.to Ev = E0) : Runs Try.prog ⟨w,H⟩ (dfA N u c p a x y fz) R := by
 have cl := D.Is.length (α := Ev) c
 refine goS_sound ctGrOk (fun _=>false) [(91,5)] 300 _ ?_
 rw [df_in]
 show Runs _ _ (dxL N u c p a x y fz 0) _
 refine runs_loop (fun j : Nat=>dxL N u c p a x y fz j) (fun j=>j ≤ E0.length ∧ keepE N (E0.take j) = E0.take j) (fun j=>E0.length - j) (fun _=>rfl) ?_ 0 ⟨Nat.zero_le _,rfl⟩
 intro j ⟨hj,hk⟩ ih
 refine goS_sound ctGrOk (fun _=>false) [(53,6)] 300 _ ?_
 rw [dx_go]
 refine ⟨fun h1=>?_,fun h1=>?_⟩
 ·have h1 : j < E0.length := by have := of_decide_eq_true h1; rw [ht] at cl; omega
  have h2 : j < (c.to Ev).length := by rw [ht]; exact h1
  obtain ⟨c1,c2,c3⟩ := ev_cell hc h2
  have hx : (c.to Ev)[j] = E0[j] := by simp only [ht]
  have wj : IntKind.i64.wrap ((j : Int) + 1) = ((j + 1 : Nat) : Int) := wrap_succ h1 hE
  rw [wj,Int.toNat_natCast j,c3,hx]
  refine ⟨⟨by omega,by omega,hz⟩,⟨c1,hz⟩,fun hk1=>⟨fun hm=>?_,fun _=>?_⟩,fun hk1=>?_⟩
  ·exact absurd (of_decide_eq_true hm) (by show ¬((j : Int) = -1); omega)
  ·have hk1 := of_decide_eq_true hk1
   refine del_loop hp hN hpl hE next hc hz (by rw [ht]) (Nat.le_succ j) h1 ?_ (by rw [ht])
   rw [keepE_succ h1,if_pos hk1,hk,ht]
  ·have hk1 := of_decide_eq_false hk1
   exact ih (j + 1) ⟨h1,keepE_all hk h1 hk1⟩ (by omega)
 ·have h1 : j = E0.length := by have := of_decide_eq_false h1; rw [ht] at cl; omega
  subst h1
  rw [List.take_length] at hk
  refine ⟨fun _ hs=>⟨⟨hp,by omega,by omega,hpl⟩,?_⟩,fun h=>Bool.noConfusion h⟩
  exact next _ _ (una_ints _ _) ⟨hc,by rw [ht]; exact hk.symm,hz⟩
theorem lawRecG : Law Try.prog 23 ((rdGr.two rdD).sp spRecG) := by
 refine law_in _ (by kernel_rfl) fun H w ⟨⟨⟨ha,hb,hc⟩,wt,hd,fz⟩,du⟩ hok hp=>?_
 obtain ⟨hx,hdu,hdl⟩ := hp _ (List.mem_singleton.2 rfl)
 have hx : GrD.Right ⟨⟨ha,hb,hc⟩,wt,hd,fz⟩ := hx
 simp only at hdu hdl
 have dl := D.Is.length (α := Int) du
 obtain ⟨⟨ra,rb,rc,la,lb,lc,rd⟩,rw',rh,lw,lh⟩ := id hx
 simp only at ra rb rc la lb lc rd rw' rh lw lh
 have hbl := D.Is.length (α := Wt) hb
 have hcl := D.Is.length (α := Ev) hc
 refine goS_sound (noCtr _) (fun _=>false) [(40,1)] 50 _ ?_
 rw [show (rdGr.two rdD).canon (⟨⟨ha,hb,hc⟩,wt,hd,fz⟩,du) = [.agg [.dat ha,.dat hb,.dat hc,.dat wt,.dat hd,.bool fz],.dat du] from rfl,gr_in]
 refine runs_frame (Φ := openPhi ⟨⟨ha,hb,hc⟩,wt,hd,fz⟩) (top := opC ha hb hc wt hd fz) opC_pure (fun k hk=>?_) (fun H w _=>opCRuns hx) fun v m hv=>?_
 ·have h : (SV.keysL (mkJ 0 [(1,.dat du),(4,.ptr 0 0)] 0 105) ++ ((([] : List SFrm).flatMap fun f=>SV.keysL f.tmps) ++ Mem.named [(0,.cells 28 [.nils,.nils,.nils,.nils,.nils,.lb false])])).all (fun k=>decide (k < 500)) = true := by kernel_rfl
  exact of_decide_eq_true (List.all_eq_true.1 h k hk)
 generalize hg : GrD.gr ⟨⟨ha,hb,hc⟩,wt,hd,fz⟩ = g at hv
 have g1 : g.hist = (HiD.mk ha hb hc).hist := by rw [← hg]; rfl
 have g5 : g.hist.writes.length = hb.len := by rw [g1,hbl]; rfl
 have g6 : g.hist.events = hc.to Ev := by rw [g1]; rfl
 have g7 : g.hist.writes = hb.to Wt := by rw [g1]; rfl
 have g8 : g.hist.sizes = ha.to Int := by rw [g1]; rfl
 show Runs _ _ _ (RetD w H fun ds=>.tup [grSV ds (recoverG g (du.to Int)).1,.dat ((ds 5).like (recoverG g (du.to Int)).2.1),.int .i64 (recoverG g (du.to Int)).2.2])
 unfold openPhi at hv
 rw [hg] at hv
 rcases hv with ⟨h0,rfl,rfl⟩ | ⟨h0,rfl,p,a,b,c,x,y,rfl,hP,hA,hB,hC,hX,hY,hZ⟩
 ·show Runs _ _ (grA du (.tup [.nilp,.int .i64 (openErr g)]) []) _
  have hfr := recoverG_e1 (du := du.to Int) h0
  apply exec_sound (noCtr _) 200
  rw [grE_go]
  refine ⟨fun _=>ret_grLI ?_ ?_ ?_,fun h=>absurd (by simpa using h) h0⟩
  ·rw [hfr]; exact stands_zG fun _=>rfl
  ·rw [hfr]; exact stands_nils
  ·rw [hfr]
 ·show Runs _ _ (grA du okV (okM p a b c x y fz)) _
  have hP2 : p.to Bool = ackd g.hist.writes.length g.hist.events := by rw [hP.2,g7,g6]
  have pl : p.len = hb.len := by rw [D.Is.length (α := Bool),hP.2,ackd_len,hbl]
  have bl : b.len = hb.len := by rw [D.Is.length (α := Wt),hB.2,hbl]
  apply exec_sound ctGrOk 300
  rw [grO_go]
  refine ⟨fun h=>Bool.noConfusion h,fun _ hs=>⟨fun h1=>?_,fun h1=>?_⟩⟩
  ·have hfr := recoverG_e2 (du := du.to Int) h0 (by have := of_decide_eq_true h1; omega)
   simp only [holds_need]
   refine ⟨h1,h1,h1,h1,h1,h1,h1,h1,h1,ret_grLI ?_ ?_ ?_⟩
   ·rw [hfr]; exact stands_zG fun _=>rfl
   ·rw [hfr]; exact stands_nils
   ·rw [hfr]
  ·have h1' := of_decide_eq_false h1
   have hle : du.len ≤ p.len := by omega
   have hsub := (D.Is.sub hP.1 (Int.toNat (du.len : Int)) (Int.toNat (du.len : Int) + (D.len p - Int.toNat (du.len : Int))))
   have e2 : (D.sub p (Int.toNat (du.len : Int)) (Int.toNat (du.len : Int) + (D.len p - Int.toNat (du.len : Int)))).to Bool = (ackd g.hist.writes.length g.hist.events).drop (du.to Int).length := by
    rw [hsub.2,Int.toNat_natCast,hP2,← dl]
    rw [List.take_of_length_le]
    rw [List.length_drop,ackd_len,g5]; omega
   have e3 : (D.sub p (Int.toNat (du.len : Int)) (Int.toNat (du.len : Int) + (D.len p - Int.toNat (du.len : Int)))).len ≤ 1048576 := by
    rw [D.Is.length (α := Bool),e2,List.length_drop,ackd_len,g5]; omega
   simp only [holds_need]
   refine ⟨h1,h1,h1,h1,h1,h1,h1,⟨by omega,by omega,hP.1.fits⟩,h1,⟨hZ.2.2.2,by omega⟩,⟨hsub.1,e3⟩,h1,?_⟩
   ·rw [e2]
    refine ⟨fun h2=>?_,fun h2=>?_⟩
    ·have hfr := recoverG_e3 (du := du.to Int) h0 (by omega) h2
     refine ret_grLI ?_ ?_ ?_
     ·rw [hfr]; exact stands_zG fun _=>rfl
     ·rw [hfr]; exact stands_nils
     ·rw [hfr]
    ·show Runs _ _ (grL du p a b c x y fz 0) _
     refine runs_loop (fun j : Nat=>grL du p a b c x y fz j) (fun j=>j ≤ (du.to Int).length ∧ (du.to Int).take j = firstN (j : Int)) (fun j=>(du.to Int).length - j) (fun _=>rfl) ?_ 0 ⟨Nat.zero_le _,rfl⟩
     intro j ⟨hj,hpre⟩ ih
     refine goS_sound ctGrOk (fun _=>false) [(55,8)] 300 _ ?_
     rw [grl_go]
     refine ⟨fun h3=>?_,fun h3 hs1=>?_⟩
     ·have h3 : j < (du.to Int).length := by have := of_decide_eq_true h3; omega
      obtain ⟨c1,c2,c3⟩ := int_at hdu h3
      have wj : IntKind.i64.wrap ((j : Int) + 1) = ((j + 1 : Nat) : Int) := wrap_succ h3 (by omega)
      rw [wj,c3]
      refine ⟨c1,c2,fun h4=>?_,fun h4=>?_⟩
      ·have hfr := recoverG_e4 (du := du.to Int) h0 (by omega) h2 (fun e=>by
        have : (du.to Int)[j] = (firstN ((du.to Int).length : Int))[j]'(by rw [firstN_len]; exact h3) := by
         have e5 : (du.to Int)[j]? = (firstN ((du.to Int).length : Int))[j]? := by rw [← e]
         rw [List.getElem?_eq_getElem h3,List.getElem?_eq_getElem (by rw [firstN_len]; exact h3)] at e5
         exact Option.some.inj e5
        rw [firstN_get] at this
        rw [this] at h4; simp at h4)
       refine ret_grLI ?_ ?_ ?_
       ·rw [hfr]; exact stands_zG fun _=>rfl
       ·rw [hfr]; exact stands_nils
       ·rw [hfr]
      ·have h4 : (du.to Int)[j] = (j : Int) := by simpa using h4
       refine ih (j + 1) ⟨h3,?_⟩ (by omega)
       rw [List.take_succ_eq_append_getElem h3,hpre,h4]
       unfold firstN
       rw [Int.toNat_natCast,Int.toNat_natCast,List.range_succ,List.map_append]; rfl
     ·have h3 : j = (du.to Int).length := by have := of_decide_eq_false h3; omega
      subst h3
      rw [List.take_length] at hpre
      have hfr := recoverG_ok (du := du.to Int) h0 (by omega) h2 hpre
      have hbs := sub_is hB.1 (Int.toNat (du.len : Int))
      refine ⟨⟨by omega,by omega,by omega,hB.1.fits⟩,?_⟩
      show Runs _ _ (dfA du.len (D.sub b 0 (Int.toNat (du.len : Int))) c p a x y fz) _
      refine dx_run (E0 := c.to Ev) hP.1 hle (by omega) (by rw [hC.2,← hcl]; exact lc) (fun l q hl hq=>?_) hC.1 hZ.1 rfl
      refine goS_sound ctGrOk (fun _=>false) [(46,1000)] 300 _ ?_
      rw [ea_in]
      show Runs _ _ (eaL l (D.sub b 0 (Int.toNat (du.len : Int))) p a q 0) _
      have hcv : (c.to Ev).length ≤ 1048576 := by rw [hC.2,← hcl]; exact lc
      have := ea_loop (w := w) (H := H) hA hbs hq hP.1 hl (fun v hv=>by
       obtain ⟨v1,v2,_⟩ := unack_mem.1 hv
       exact ⟨v1,by omega⟩) (Nat.le_trans (List.length_filter_le _ _) hcv) (Nat.le_trans filtN_len (by omega))
      unfold keepE at this
      rw [hP2,hB.2,hC.2,g7,g6] at this
      rw [hfr,← dl,g7,g6,g8]
      exact this
end Go.Proofs.Ytodhhmjilnfecaa
end
section
open Go Go.Proofs Sx
namespace Go.Proofs.Ytodhhmjilnfecaa
set_option maxRecDepth 100000
set_option maxHeartbeats 0
theorem ctRXOk : Ctrs.Ok Try.prog ctRX := by
 intro x hx
 simp only [ctRX,List.mem_cons,List.not_mem_nil,or_false] at hx
 rcases hx with rfl | rfl | rfl | rfl | rfl | rfl | rfl | rfl | rfl | rfl | rfl
 ·exact ctrOf_ok lawRkG
 ·exact ctrOf_ok lawIssueR
 ·exact ctrCpd
 ·exact ctrWo
 ·exact ctrOf_ok lawHas
 ·exact ctrOf_ok lawCopyR
 ·exact ctrOf_ok lawAckR
 ·exact ctrOf_ok lawAckd
 ·exact ctrOf_ok lawFst
 ·exact ctrOf_ok lawInts
 ·exact ctrOf_ok lawRestR
theorem lawIssGR : Law Try.prog 14 ((rdGr.two rdWt).sp spIssueG) := by
 refine law_in _ (by kernel_rfl) fun H w ⟨⟨⟨ha,hb,hc⟩,wt,hd,fz⟩,⟨vv,s,e⟩⟩ hok hp=>?_
 obtain ⟨hx,hcl,hwo⟩ := hp _ (List.mem_singleton.2 rfl)
 have hx : GrD.Right ⟨⟨ha,hb,hc⟩,wt,hd,fz⟩ := hx
 have hcl : hc.len ≤ 1000000 := hcl
 obtain ⟨hR,rw',rh,lw,lh⟩ := id hx
 simp only at hR rw' rh lw lh
 apply exec_sound ctRXOk 300
 rw [show (rdGr.two rdWt).canon (⟨⟨ha,hb,hc⟩,wt,hd,fz⟩,⟨vv,s,e⟩) = [.agg [.dat ha,.dat hb,.dat hc,.dat wt,.dat hd,.bool fz],.agg [.int .i64 vv,.int .i64 s,.dat e]] from rfl,ris_in]
 refine ⟨hx,fun h0=>?_,fun h0=>⟨⟨hR,hcl,hwo⟩,fun hs=>⟨fun he=>?_,fun he hs1=>⟨⟨rw',(one_int _ _).1,lw,Nat.le_of_ble_eq_true rfl⟩,⟨rh,is_nil0,lh,by decide⟩,?_⟩⟩⟩⟩
 ·have h0 : openErr (GrD.gr ⟨⟨ha,hb,hc⟩,wt,hd,fz⟩) ≠ 0 := by simpa using h0
  have hfr := issueG_e1 (w := WtD.wt ⟨vv,s,e⟩) h0
  refine ret_grII ?_ ?_ ?_
  ·rw [hfr]; exact stands_zG fun _=>rfl
  ·rw [hfr]
  ·rw [hfr]
 ·have h0 : openErr (GrD.gr ⟨⟨ha,hb,hc⟩,wt,hd,fz⟩) = 0 := by simpa using h0
  have he : (issueH (GrD.gr ⟨⟨ha,hb,hc⟩,wt,hd,fz⟩).hist (WtD.wt ⟨vv,s,e⟩)).2.2 ≠ 0 := by show (issueH (HiD.mk ha hb hc).hist (WtD.wt ⟨vv,s,e⟩)).2.2 ≠ 0; simpa using he
  have hfr := issueG_e2 h0 he
  refine ret_grII ?_ ?_ ?_
  ·rw [hfr]; exact stands_zG fun _=>rfl
  ·rw [hfr]
  ·rw [hfr]; rfl
 ·have h0 : openErr (GrD.gr ⟨⟨ha,hb,hc⟩,wt,hd,fz⟩) = 0 := by simpa using h0
  have he : (issueH (GrD.gr ⟨⟨ha,hb,hc⟩,wt,hd,fz⟩).hist (WtD.wt ⟨vv,s,e⟩)).2.2 = 0 := by show (issueH (HiD.mk ha hb hc).hist (WtD.wt ⟨vv,s,e⟩)).2.2 = 0; simpa using he
  have hfr := issueG_ok h0 he
  refine ret_grII ?_ ?_ ?_
  ·rw [hfr]
   refine stands_gr stands_like stands_like stands_like (stands_ints (l' := wt.to Int ++ [(issueH (HiD.mk ha hb hc).hist (WtD.wt ⟨vv,s,e⟩)).2.1]) ?_) (stands_ints (l' := hd.to Int) ?_) (fun _=>rfl) rfl
   ·rfl
   ·show hd.to Int ++ [] = _; simp
  ·rw [hfr]; rfl
  ·rw [hfr]
theorem lawDurGR : Law Try.prog 16 ((rdGr.two rdInt).sp spDurR) := by
 refine law_in _ (by kernel_rfl) fun H w ⟨⟨⟨ha,hb,hc⟩,wt,hd,fz⟩,n⟩ hok hp=>?_
 obtain ⟨hx,hcl⟩ := hp _ (List.mem_singleton.2 rfl)
 have hx : GrD.Right ⟨⟨ha,hb,hc⟩,wt,hd,fz⟩ := hx
 have hcl : hc.len ≤ 1000000 := hcl
 obtain ⟨hR,rw',rh,lw,lh⟩ := id hx
 simp only at hR rw' rh lw lh
 apply exec_sound ctRXOk 300
 rw [show (rdGr.two rdInt).canon (⟨⟨ha,hb,hc⟩,wt,hd,fz⟩,n) = [.agg [.dat ha,.dat hb,.dat hc,.dat wt,.dat hd,.bool fz],.int .i64 n] from rfl,rdu_in]
 have hfr := durG_ref (GrD.gr ⟨⟨ha,hb,hc⟩,wt,hd,fz⟩) n
 unfold durR at hfr
 refine ⟨hx,fun h0=>?_,fun h0=>⟨⟨rw',lw⟩,fun he=>?_,fun he hs=>⟨hR,⟨rw',lw⟩,⟨rh,is_nil0,lh,by decide⟩,fun hf hs1=>⟨⟨rh,(one_int _ _).1,lh,Nat.le_of_ble_eq_true rfl⟩,fun hs2=>?_⟩,fun hf=>⟨⟨hR,hcl⟩,fun hs1 hs2=>?_⟩⟩⟩⟩
 ·have h0 : openErr (GrD.gr ⟨⟨ha,hb,hc⟩,wt,hd,fz⟩) ≠ 0 := by simpa using h0
  rw [if_pos h0] at hfr
  refine ret_grLI ?_ ?_ ?_
  ·rw [hfr]; exact stands_zG fun _=>rfl
  ·rw [hfr]; exact stands_nils
  ·rw [hfr]
 ·have h0 : ¬openErr (GrD.gr ⟨⟨ha,hb,hc⟩,wt,hd,fz⟩) ≠ 0 := by simpa using h0
  rw [if_neg h0,if_pos (show (GrD.gr ⟨⟨ha,hb,hc⟩,wt,hd,fz⟩).waiting.contains n = false from by show (wt.to Int).contains n = false; simpa using he)] at hfr
  refine ret_grLI ?_ ?_ ?_
  ·rw [hfr]; exact stands_zG fun _=>rfl
  ·rw [hfr]; exact stands_nils
  ·rw [hfr]
 ·have h0 : ¬openErr (GrD.gr ⟨⟨ha,hb,hc⟩,wt,hd,fz⟩) ≠ 0 := by simpa using h0
  rw [if_neg h0,if_neg (show ¬(GrD.gr ⟨⟨ha,hb,hc⟩,wt,hd,fz⟩).waiting.contains n = false from fun e=>by
   have he : (wt.to Int).contains n = true := by simpa using he
   have e : (wt.to Int).contains n = false := e
   rw [he] at e; cases e),if_pos (show (GrD.gr ⟨⟨ha,hb,hc⟩,wt,hd,fz⟩).frozen = true from hf)] at hfr
  refine ret_grLI ?_ ?_ ?_
  ·rw [hfr]
   exact stands_gr stands_like stands_like stands_like (stands_ints (l' := withoutI (wt.to Int) n) rfl) (stands_ints (l' := hd.to Int ++ [n]) rfl) (b := true) (fun _=>by rw [hf]; rfl) rfl
  ·rw [hfr]; exact stands_nils
  ·rw [hfr]
 ·have h0 : ¬openErr (GrD.gr ⟨⟨ha,hb,hc⟩,wt,hd,fz⟩) ≠ 0 := by simpa using h0
  rw [if_neg h0,if_neg (show ¬(GrD.gr ⟨⟨ha,hb,hc⟩,wt,hd,fz⟩).waiting.contains n = false from fun e=>by
   have he : (wt.to Int).contains n = true := by simpa using he
   have e : (wt.to Int).contains n = false := e
   rw [he] at e; cases e),if_neg (show ¬(GrD.gr ⟨⟨ha,hb,hc⟩,wt,hd,fz⟩).frozen = true from fun e=>by have e : fz = true := e; rw [hf] at e; cases e)] at hfr
  refine ret_grLI ?_ ?_ ?_
  ·rw [hfr]
   exact stands_gr stands_like stands_like stands_like (stands_ints (l' := withoutI (wt.to Int) n) rfl) (stands_ints (l' := hd.to Int) (by show hd.to Int ++ [] = _; simp)) (b := false) (fun _=>by rw [hf]; rfl) rfl
  ·rw [hfr]; exact stands_dat (one_int _ _).1 (one_int _ _).2
  ·rw [hfr]
theorem lawFrzGR : Law Try.prog 20 (rdGr.one.sp spFrzG) := by
 refine law_in _ (by kernel_rfl) fun H w ⟨⟨ha,hb,hc⟩,wt,hd,fz⟩ hok hp=>?_
 have hx : GrD.Right ⟨⟨ha,hb,hc⟩,wt,hd,fz⟩ := hp _ (List.mem_singleton.2 rfl)
 obtain ⟨hR,rw',rh,lw,lh⟩ := id hx
 simp only at hR rw' rh lw lh
 have bl := D.Is.length (α := Wt) hb
 apply exec_sound ctRXOk 300
 rw [show rdGr.one.canon ⟨⟨ha,hb,hc⟩,wt,hd,fz⟩ = [.agg [.dat ha,.dat hb,.dat hc,.dat wt,.dat hd,.bool fz]] from rfl,rfz_in]
 have hfr := frzG_ref (GrD.gr ⟨⟨ha,hb,hc⟩,wt,hd,fz⟩)
 unfold frzR at hfr
 refine ⟨hx,fun h0=>?_,fun h0=>⟨fun hf=>?_,fun hf hs=>⟨hR,⟨rw',is_nil0,lw,by decide⟩,?_⟩⟩⟩
 ·have h0 : openErr (GrD.gr ⟨⟨ha,hb,hc⟩,wt,hd,fz⟩) ≠ 0 := by simpa using h0
  rw [if_pos h0] at hfr
  refine ret_grII ?_ ?_ ?_
  ·rw [hfr]; exact stands_zG fun _=>rfl
  ·rw [hfr]
  ·rw [hfr]
 ·have h0 : ¬openErr (GrD.gr ⟨⟨ha,hb,hc⟩,wt,hd,fz⟩) ≠ 0 := by simpa using h0
  rw [if_neg h0,if_pos (show (GrD.gr ⟨⟨ha,hb,hc⟩,wt,hd,fz⟩).frozen = true from hf)] at hfr
  refine ret_grII ?_ ?_ ?_
  ·rw [hfr]; exact stands_zG fun _=>rfl
  ·rw [hfr]
  ·rw [hfr]
 ·have h0 : ¬openErr (GrD.gr ⟨⟨ha,hb,hc⟩,wt,hd,fz⟩) ≠ 0 := by simpa using h0
  rw [if_neg h0,if_neg (show ¬(GrD.gr ⟨⟨ha,hb,hc⟩,wt,hd,fz⟩).frozen = true from fun e=>by have e : fz = true := e; rw [hf] at e; cases e)] at hfr
  refine ret_grII ?_ ?_ ?_
  ·rw [hfr]
   exact stands_gr stands_like stands_like stands_like (stands_ints (l' := wt.to Int) (by show wt.to Int ++ [] = _; simp)) stands_nils (b := true) (fun _=>rfl) rfl
  ·rw [hfr,bl]; rfl
  ·rw [hfr]
theorem lawThawGR : Law Try.prog 22 (rdGr.one.sp spThawR) := by
 refine law_in _ (by kernel_rfl) fun H w ⟨⟨ha,hb,hc⟩,wt,hd,fz⟩ hok hp=>?_
 obtain ⟨hx,hcl,hhl⟩ := hp _ (List.mem_singleton.2 rfl)
 have hx : GrD.Right ⟨⟨ha,hb,hc⟩,wt,hd,fz⟩ := hx
 have hcl : hc.len ≤ 500000 := hcl
 have hhl : hd.len ≤ 500000 := hhl
 obtain ⟨hR,rw',rh,lw,lh⟩ := id hx
 simp only at hR rw' rh lw lh
 obtain ⟨ra,rb,rc,la,lb,lc,rd⟩ := id hR
 simp only at ra rb rc la lb lc rd
 have al := D.Is.length (α := Int) ha
 have bl := D.Is.length (α := Wt) hb
 have cl := D.Is.length (α := Ev) hc
 have hl := D.Is.length (α := Int) hd
 apply exec_sound ctRXOk 300
 rw [show rdGr.one.canon ⟨⟨ha,hb,hc⟩,wt,hd,fz⟩ = [.agg [.dat ha,.dat hb,.dat hc,.dat wt,.dat hd,.bool fz]] from rfl,rth_in]
 have hfr := thawG_ref (GrD.gr ⟨⟨ha,hb,hc⟩,wt,hd,fz⟩)
 unfold thawR at hfr
 refine ⟨hx,fun h0=>?_,fun h0=>⟨fun hf=>?_,fun hf=>⟨hR,fun hs=>?_⟩⟩⟩
 ·have h0 : openErr (GrD.gr ⟨⟨ha,hb,hc⟩,wt,hd,fz⟩) ≠ 0 := by simpa using h0
  rw [if_pos h0] at hfr
  refine ret_grLI ?_ ?_ ?_
  ·rw [hfr]; exact stands_zG fun _=>rfl
  ·rw [hfr]; exact stands_nils
  ·rw [hfr]
 ·have h0 : ¬openErr (GrD.gr ⟨⟨ha,hb,hc⟩,wt,hd,fz⟩) ≠ 0 := by simpa using h0
  rw [if_neg h0,if_pos (show (GrD.gr ⟨⟨ha,hb,hc⟩,wt,hd,fz⟩).frozen = false from by show fz = false; simpa using hf)] at hfr
  refine ret_grLI ?_ ?_ ?_
  ·rw [hfr]; exact stands_zG fun _=>rfl
  ·rw [hfr]; exact stands_nils
  ·rw [hfr]
 ·have h0 : ¬openErr (GrD.gr ⟨⟨ha,hb,hc⟩,wt,hd,fz⟩) ≠ 0 := by simpa using h0
  have h0' : openErr (GrD.gr ⟨⟨ha,hb,hc⟩,wt,hd,fz⟩) = 0 := by simpa using h0
  rw [if_neg h0,if_neg (show ¬(GrD.gr ⟨⟨ha,hb,hc⟩,wt,hd,fz⟩).frozen = false from fun e=>by have e : fz = false := e; rw [e] at hf; cases hf)] at hfr
  have hgo : ∀ j,ackAll ((hd.to Int).take j) (HiD.mk ha hb hc).hist = ⟨ha.to Int,hb.to Wt,hc.to Ev ++ ((hd.to Int).take j).map (Ev.mk 1)⟩ := thaw_go h0'
  show Runs _ _ (rthL ha hb hc wt hd ((hs 0 0).like (ha.to Int)) ((hs 0 1).like (hb.to Wt)) ((hs 0 2).like (hc.to Ev)) fz 0) _
  refine runs_loop (fun u : Nat × D × D × D=>rthL ha hb hc wt hd u.2.1 u.2.2.1 u.2.2.2 fz u.1) (fun u=>u.1 ≤ (hd.to Int).length ∧ u.2.1.Is Int ∧ u.2.2.1.Is Wt ∧ u.2.2.2.Is Ev ∧ (HiD.mk u.2.1 u.2.2.1 u.2.2.2).hist = ackAll ((hd.to Int).take u.1) (HiD.mk ha hb hc).hist) (fun u=>(hd.to Int).length - u.1) (fun _=>rfl) ?_
   (0,(hs 0 0).like (ha.to Int),(hs 0 1).like (hb.to Wt),(hs 0 2).like (hc.to Ev)) ⟨Nat.zero_le _,D.like_is _ _,D.like_is _ _,D.like_is _ _,by simp only [HiD.hist,D.like_to]; rfl⟩
  rintro ⟨j,a,b,c⟩ ⟨hj,i1,i2,i3,i4⟩ ih
  simp only at hj i1 i2 i3 i4 ih ⊢
  have hE := i4
  rw [hgo j] at hE
  have e1 : a.to Int = ha.to Int := congrArg Hist.sizes hE
  have e2 : b.to Wt = hb.to Wt := congrArg Hist.writes hE
  have e3 : c.to Ev = hc.to Ev ++ ((hd.to Int).take j).map (Ev.mk 1) := congrArg Hist.events hE
  have al' := D.Is.length (α := Int) a
  have bl' := D.Is.length (α := Wt) b
  have cl' := D.Is.length (α := Ev) c
  rw [e1] at al'; rw [e2] at bl'; rw [e3,List.length_append,List.length_map,List.length_take] at cl'
  have hRj : HiD.Right ⟨a,b,c⟩ := ⟨i1,i2,i3,by simp only; omega,by simp only; omega,by simp only; omega,by simp only; rw [e2]; exact rd⟩
  apply exec_sound ctRXOk 300
  rw [rth_go]
  refine ⟨fun hc1 hs1=>?_,fun hc1 hs1=>⟨⟨rw',is_nil0,lw,by decide⟩,⟨rh,is_nil0,lh,by decide⟩,?_⟩⟩
  ·have hcj : j < (hd.to Int).length := by have := of_decide_eq_true hc1; omega
   obtain ⟨c1,c2,c3⟩ := int_at rh hcj
   have wj : IntKind.i64.wrap ((j : Int) + 1) = ((j + 1 : Nat) : Int) := wrap_succ hcj (by omega)
   rw [wj,c3]
   refine ⟨c1,c2,⟨hRj,by omega⟩,?_⟩
   refine ih (j + 1,(hs1 6 0).like (ackH (HiD.mk a b c).hist ((hd.to Int)[j])).1.sizes,(hs1 6 1).like (ackH (HiD.mk a b c).hist ((hd.to Int)[j])).1.writes,(hs1 6 2).like (ackH (HiD.mk a b c).hist ((hd.to Int)[j])).1.events) ⟨hcj,D.like_is _ _,D.like_is _ _,D.like_is _ _,?_⟩ (by simp only; omega)
   simp only [like_hist]
   rw [ackAll_snoc hcj,i4]
  ·have hjl : j = (hd.to Int).length := by have := of_decide_eq_false hc1; omega
   subst hjl
   rw [List.take_length] at i4
   refine ret_grLI ?_ ?_ ?_
   ·rw [hfr]
    refine stands_gr (stands_dat i1 rfl) (stands_dat i2 rfl) (stands_dat i3 rfl) (stands_ints (l' := wt.to Int) (by show wt.to Int ++ [] = _; simp)) stands_nils (b := false) (fun _=>rfl) ?_
    show (⟨ackAll (hd.to Int) (HiD.mk ha hb hc).hist,wt.to Int,[],false⟩ : Gr) = _
    rw [← i4]; rfl
   ·rw [hfr]; exact stands_ints (l' := hd.to Int) (by show hd.to Int ++ [] = _; simp)
   ·rw [hfr]
end Go.Proofs.Ytodhhmjilnfecaa
end
section
open Go Go.Proofs Sx
namespace Sx
theorem recG_27 {g : Gr} {du : List Int} (h0 : openErr g = 0) (h : du.length > g.hist.writes.length ∨ ((ackd g.hist.writes.length g.hist.events).drop du.length).any (fun y=>decide (true = y)) = true ∨ du ≠ firstN du.length) : recoverG g du = (zGr,[],27) := by
 by_cases h2 : du.length > g.hist.writes.length
 ·exact recoverG_e2 h0 h2
 ·cases h3 : ((ackd g.hist.writes.length g.hist.events).drop du.length).any (fun y=>decide (true = y)) with
  | true=>exact recoverG_e3 h0 h2 h3
  | false =>
   rw [h3] at h
   rcases h with h | h | h
   ·exact absurd h h2
   ·cases h
   ·exact recoverG_e4 h0 h2 h3 h
end Sx
namespace Go.Proofs.Ytodhhmjilnfecaa
set_option maxRecDepth 100000
set_option maxHeartbeats 0
theorem lawRecGR : Law Try.prog 24 ((rdGr.two rdD).sp spRecR) := by
 refine law_in _ (by kernel_rfl) fun H w ⟨⟨⟨ha,hb,hc⟩,wt,hd,fz⟩,du⟩ hok hp=>?_
 obtain ⟨hx,hcl,hdu,hdl⟩ := hp _ (List.mem_singleton.2 rfl)
 have hx : GrD.Right ⟨⟨ha,hb,hc⟩,wt,hd,fz⟩ := hx
 have hcl : hc.len ≤ 500000 := hcl
 simp only at hdu hdl
 obtain ⟨hR,rw',rh,lw,lh⟩ := id hx
 simp only at hR rw' rh lw lh
 obtain ⟨ra,rb,rc,la,lb,lc,rd⟩ := id hR
 simp only at ra rb rc la lb lc rd
 have al := D.Is.length (α := Int) ha
 have bl := D.Is.length (α := Wt) hb
 have cl := D.Is.length (α := Ev) hc
 have dl := D.Is.length (α := Int) du
 apply exec_sound ctRXOk 300
 rw [show (rdGr.two rdD).canon (⟨⟨ha,hb,hc⟩,wt,hd,fz⟩,du) = [.agg [.dat ha,.dat hb,.dat hc,.dat wt,.dat hd,.bool fz],.dat du] from rfl,rrc_in]
 generalize hg : GrD.gr ⟨⟨ha,hb,hc⟩,wt,hd,fz⟩ = g
 have g1 : g.hist = (HiD.mk ha hb hc).hist := by rw [← hg]; rfl
 have g5 : g.hist.writes.length = hb.len := by rw [g1,bl]; rfl
 have g6 : g.hist.events = hc.to Ev := by rw [g1]; rfl
 have g7 : g.hist.writes = hb.to Wt := by rw [g1]; rfl
 have g8 : g.hist.sizes = ha.to Int := by rw [g1]; rfl
 show Tree.holds _ _ (RetD w H fun ds=>.tup [grSV ds (recoverG g (du.to Int)).1,.dat ((ds 5).like (recoverG g (du.to Int)).2.1),.int .i64 (recoverG g (du.to Int)).2.2]) _
 have err : ∀ k : Int,recoverG g (du.to Int) = (zGr,[],k) → (Tree.ret (.tup [.agg [.nils,.nils,.nils,.nils,.nils,.lb false],.nils,.int .i64 k])).holds Try.prog ⟨w,H⟩ (RetD w H fun ds=>.tup [grSV ds (recoverG g (du.to Int)).1,.dat ((ds 5).like (recoverG g (du.to Int)).2.1),.int .i64 (recoverG g (du.to Int)).2.2]) := fun k hfr=>by
  refine ret_grLI ?_ ?_ ?_
  ·rw [hfr]; exact stands_zG fun _=>rfl
  ·rw [hfr]; exact stands_nils
  ·rw [hfr]
 refine ⟨hx,fun h0=>?_,fun h0=>⟨fun h1=>?_,fun h1=>⟨by omega,fun hs=>⟨⟨hdu,D.like_is _ _,by omega⟩,fun h2=>?_,fun h2=>?_⟩⟩⟩⟩
 ·exact err _ (recoverG_e1 (by simpa using h0))
 ·have h1 := of_decide_eq_true h1
  exact err _ (recG_27 (by simpa using h0) (.inl (by omega)))
 ·have h2 : du.to Int ≠ firstN du.len := by rw [D.like_to] at h2; simpa using h2
  rw [dl] at h2
  exact err _ (recG_27 (by simpa using h0) (.inr (.inr h2)))
 have h0 : openErr g = 0 := by simpa using h0
 have hck := ((openErr_iff g).1 h0).1
 have h1 : du.len ≤ hb.len := by have := of_decide_eq_false h1; omega
 have h2 : du.to Int = firstN du.len := by rw [D.like_to] at h2; simpa using h2
 have hle : du.len ≤ g.hist.writes.length := by omega
 show Runs _ _ (rrcA ha hb hc wt hd du fz du.len du.len) _
 refine runs_loop (fun j : Nat=>rrcA ha hb hc wt hd du fz du.len j) (fun j=>du.len ≤ j ∧ j ≤ hb.len ∧ ∀ i : Nat,du.len ≤ i → i < j → ¬atEv g.hist.events ⟨1,(i : Int)⟩ ≥ 0) (fun j=>hb.len - j) (fun _=>rfl) ?_ du.len ⟨Nat.le_refl _,h1,fun i a b=>by omega⟩
 intro j ⟨hj0,hj,hpj⟩ ih
 apply exec_sound ctRXOk 300
 rw [rrca_go]
 refine ⟨fun hc1=>⟨⟨rc,lc⟩,fun hat=>?_,fun hat=>?_⟩,fun hc1=>⟨⟨hR,hdu,by omega⟩,fun hs1=>?_⟩⟩
 ·have hcj : j < hb.len := by have := of_decide_eq_true hc1; omega
  have hat := of_decide_eq_true hat
  refine err _ (recG_27 h0 (.inr (.inl ?_)))
  cases hany : ((ackd g.hist.writes.length g.hist.events).drop (du.to Int).length).any (fun y=>decide (true = y)) with
  | true=>rfl
  | false =>
   have := (rec_acked hck).1 hany j (by omega) (by omega)
   rw [g6] at this; exact absurd hat this
 ·have hcj : j < hb.len := by have := of_decide_eq_true hc1; omega
  have hat := of_decide_eq_false hat
  have wj : IntKind.i64.wrap ((j : Int) + 1) = ((j + 1 : Nat) : Int) := wrap_succ hcj (by omega)
  rw [wj]
  refine ih (j + 1) ⟨by omega,hcj,fun i a b=>?_⟩ (by omega)
  by_cases e : i = j
  ·subst e; rw [g6]; exact hat
  ·exact hpj i a (by omega)
 have hjl : j = hb.len := by have := of_decide_eq_false hc1; omega
 subst hjl
 have hany : ((ackd g.hist.writes.length g.hist.events).drop du.len).any (fun y=>decide (true = y)) = false := (rec_acked hck).2 fun i a b=>hpj i a (by omega)
 have hfr := rec_done h0 hle hany
 rw [← h2] at hfr
 have hr1 := restrict_first hck hle
 have hz := recHist_zero hck hle
 rw [g1,← h2] at hz
 generalize hA : ackd g.hist.writes.length g.hist.events = A at hfr
 refine vecIn_to 9 3 1 none 12 (rrcB ((hs1 0 0).like (restrictH (HiD.mk ha hb hc).hist (du.to Int)).1.sizes) ((hs1 0 1).like (restrictH (HiD.mk ha hb hc).hist (du.to Int)).1.writes) ((hs1 0 2).like (restrictH (HiD.mk ha hb hc).hist (du.to Int)).1.events) (.slc none 1 []) du.len 0) (by kernel_rfl) ?_
 refine runs_loop (fun u : Nat × D × D × D × D=>rrcB u.2.1 u.2.2.1 u.2.2.2.1 u.2.2.2.2 du.len u.1) (fun u=>u.1 ≤ du.len ∧ u.2.1.Is Int ∧ u.2.2.1.Is Wt ∧ u.2.2.2.1.Is Ev ∧ (HiD.mk u.2.1 u.2.2.1 u.2.2.2.1).hist = recHist g.hist du.len u.1 ∧ u.2.2.2.2.Is Int ∧ u.2.2.2.2.sz = 1 ∧ u.2.2.2.2.to Int = unackN A u.1) (fun u=>du.len - u.1) (fun _=>rfl) ?_
  (0,(hs1 0 0).like (restrictH (HiD.mk ha hb hc).hist (du.to Int)).1.sizes,(hs1 0 1).like (restrictH (HiD.mk ha hb hc).hist (du.to Int)).1.writes,(hs1 0 2).like (restrictH (HiD.mk ha hb hc).hist (du.to Int)).1.events,.slc none 1 []) ⟨Nat.zero_le _,D.like_is _ _,D.like_is _ _,D.like_is _ _,by simp only [like_hist]; rw [g1]; exact hz.symm,is_nil _ _,rfl,rfl⟩
 rintro ⟨j,a,b,c,r⟩ ⟨hj,i1,i2,i3,i4,i5,i6,i7⟩ ih
 simp only at hj i1 i2 i3 i4 i5 i6 i7 ih ⊢
 have e1 : a.to Int = ha.to Int := by have := congrArg Hist.sizes i4; rw [← g8]; exact this
 have e2 : b.to Wt = (hb.to Wt).take du.len := by have := congrArg Hist.writes i4; rw [← g7]; exact this
 have e3 : c.to Ev = (hc.to Ev).filter (fun x=>!decide (x.write ≥ (du.len : Int))) ++ (unackN A j).map (Ev.mk 1) := by have := congrArg Hist.events i4; rw [← g6,← hA]; exact this
 have al' := D.Is.length (α := Int) a
 have bl' := D.Is.length (α := Wt) b
 have cl' := D.Is.length (α := Ev) c
 have ul : (unackN A j).length ≤ j := filtN_len
 have fl := List.length_filter_le (fun x : Ev=>!decide (x.write ≥ (du.len : Int))) (hc.to Ev)
 rw [e1] at al'; rw [e2,List.length_take] at bl'; rw [e3,List.length_append,List.length_map] at cl'
 have hRj : HiD.Right ⟨a,b,c⟩ := ⟨i1,i2,i3,by simp only; omega,by simp only; omega,by simp only; omega,by simp only; rw [e2]; exact fun q hq=>rd q (List.mem_of_mem_take hq)⟩
 have rl : r.len ≤ 1048576 := by rw [D.Is.length (α := Int),i7]; omega
 apply exec_sound ctRXOk 300
 rw [rrcb_go]
 refine ⟨fun hc1=>⟨⟨i3,by omega⟩,fun hat=>⟨⟨hRj,by omega⟩,fun hs2 hs3=>⟨apq_need i6 rl,fun hs4=>?_⟩⟩,fun hat=>?_⟩,fun hc1=>?_⟩
 ·have hcj : j < du.len := by have := of_decide_eq_true hc1; omega
  have hh := recHist_at hck hle hcj
  rw [← i4,hA] at hh
  have hh : decide (atEv (c.to Ev) ⟨1,(j : Int)⟩ ≥ 0) = A.getD j false := hh
  have wj : IntKind.i64.wrap ((j : Int) + 1) = ((j + 1 : Nat) : Int) := wrap_succ hcj (by omega)
  have hAj : A.getD j false = false := by rw [← hh]; simpa using hat
  have hgo := recHist_go hck hle hcj (by rw [hA]; exact hAj)
  rw [wj]
  obtain ⟨q1,q2,q3⟩ := apq_is (a := D.hd (hs3 0 0)) (b := D.hd (hs4 0 0)) (z := (j : Int)) i5 i7
  refine ih (j + 1,(hs2 0 0).like (ackH (HiD.mk a b c).hist j).1.sizes,(hs2 0 1).like (ackH (HiD.mk a b c).hist j).1.writes,(hs2 0 2).like (ackH (HiD.mk a b c).hist j).1.events,_) ⟨hcj,D.like_is _ _,D.like_is _ _,D.like_is _ _,?_,q1,q2,?_⟩ (by simp only; omega)
  ·simp only [like_hist]; rw [i4,hgo]
  ·rw [q3,unack_succ,hAj,if_neg Bool.false_ne_true]
 ·have hcj : j < du.len := by have := of_decide_eq_true hc1; omega
  have hh := recHist_at hck hle hcj
  rw [← i4,hA] at hh
  have hh : decide (atEv (c.to Ev) ⟨1,(j : Int)⟩ ≥ 0) = A.getD j false := hh
  have wj : IntKind.i64.wrap ((j : Int) + 1) = ((j + 1 : Nat) : Int) := wrap_succ hcj (by omega)
  have hAj : A.getD j false = true := by rw [← hh]; simpa using hat
  rw [wj]
  refine ih (j + 1,a,b,c,r) ⟨hcj,i1,i2,i3,?_,i5,i6,?_⟩ (by simp only; omega)
  ·simp only; rw [i4]; exact (recHist_skip hck hle (by rw [hA]; exact hAj)).symm
  ·simp only; rw [i7,unack_succ,hAj,if_pos rfl]
 ·have hjl : j = du.len := by have := of_decide_eq_false hc1; omega
  subst hjl
  refine ret_grLI ?_ ?_ ?_
  ·rw [hfr]
   refine stands_gr (stands_dat i1 rfl) (stands_dat i2 rfl) (stands_dat i3 rfl) stands_nils stands_nils (b := false) (fun _=>rfl) ?_
   rw [← i4]; rfl
  ·rw [hfr]; exact stands_dat i5 i7
  ·rw [hfr]
end Go.Proofs.Ytodhhmjilnfecaa
end
section
open Go Go.Proofs Sx
namespace Go.Proofs.Ytodhhmjilnfecaa
set_option maxRecDepth 100000
set_option maxHeartbeats 0
section
variable (n : Int) (a b : D)
theorem eqi_in : exec Try.prog [] 200 (entry Try.prog 18 [.dat a,.dat b]) =
 Tree.br ((↑(D.len a) : Int) != (↑(D.len b) : Int)) (.ret (.lb false))
 (.leaf
 (Conf.mk
 (SFrm.mk 18 none none
 [Item.inLoop (cAt Try.prog 18 [1,1,0,1,0,0]),Item.inBlock 0,Item.code (cAt Try.prog 18 [1,1,1])]
 (mkJ 0 [(0,.dat a),(1,.dat b),(12,.int .i64 (↑(D.len a) : Int)),(13,.int .i64 0)] 0
 26))
 [] [])) := by kernel_rfl

theorem con_in : exec Try.prog [(44,ctrOf ((rdD.two rdInt).sp spIxI))] 200 (entry Try.prog 28 [.dat a,.int .i64 n]) =
 Tree.need (D.Is Int a ∧ D.len a ≤ 1048576)
 (.ret (.bool (decide ((idxG (D.to Int a) fun y=>decide (n = y)) ≥ 0)))) := by kernel_rfl

end
end Go.Proofs.Ytodhhmjilnfecaa
end
section
open Go Go.Proofs Sx
namespace Go.Proofs.Ytodhhmjilnfecaa
set_option maxRecDepth 100000
set_option maxHeartbeats 0
noncomputable def eqiL (a b : D) (j : Int) : Conf := Conf.mk (SFrm.mk 18 none none [Item.inLoop (cAt Try.prog 18 [1,1,0,1,0,0]),Item.inBlock 0,Item.code (cAt Try.prog 18 [1,1,1])] (mkJ 0 [(0,.dat a),(1,.dat b),(12,.int .i64 (a.len : Int)),(13,.int .i64 j)] 0 26)) [] []
section
variable (n j : Int) (a b : D)
theorem eqi_go : exec Try.prog [] 200 (unroll (eqiL a b j)) =
 Tree.br (decide (j < (↑(D.len a) : Int)))
 (.all fun hs =>
 .need (0 ≤ j ∧ j < (↑(D.len a) : Int) ∧ D.sz a = 1)
 (.need (D.HasCell a (Int.toNat j) 0 (FT.int .i64))
 (.need (0 ≤ j ∧ j < (↑(D.len b) : Int) ∧ D.sz b = 1)
 (.need (D.HasCell b (Int.toNat j) 0 (FT.int .i64))
 (.br (D.getInt a (Int.toNat j) 0 != D.getInt b (Int.toNat j) 0) (.ret (.lb false))
 (.leaf
 (Conf.mk
 (SFrm.mk 18 none none
 [Item.inLoop (cAt Try.prog 18 [1,1,0,1,0,0]),Item.inBlock 0,
 Item.code (cAt Try.prog 18 [1,1,1])]
 (mkJ 0
 [(0,.dat a),(1,.dat b),(12,.int .i64 (↑(D.len a) : Int)),
 (13,.int .i64 (IntKind.wrap .i64 (j + 1)))]
 0 26))
 [] [])))))))
 (.ret (.lb true)) := by kernel_rfl

end
end Go.Proofs.Ytodhhmjilnfecaa
end
section
open Go Go.Proofs Sx
namespace Go.Proofs.Ytodhhmjilnfecaa
set_option maxRecDepth 100000

theorem lawEqI : Law Try.prog 18 ((rdD.two rdD).sp spInts) := by
 refine law_in _ (by kernel_rfl) fun H w ⟨a,b⟩ hok hp=>?_
 obtain ⟨ha,hb,hlen⟩ := hp _ (List.mem_singleton.2 rfl)
 simp only at ha hb hlen
 have hla := D.Is.length (α := Int) a
 have hlb := D.Is.length (α := Int) b
 apply exec_sound (noCtr _) 200
 rw [show (rdD.two rdD).canon (a,b) = [.dat a,.dat b] from rfl,eqi_in]
 refine ⟨fun hc=>ret_lb ?_,fun hc=>?_⟩
 ·exact same_not fun he=>by simp [hla,hlb,he] at hc
 have hc' : (a.to Int).length = (b.to Int).length := by simp [hla,hlb] at hc; omega
 refine runs_loop (fun j : Nat=>eqiL a b j) (fun j=>j ≤ (a.to Int).length ∧ (a.to Int).take j = (b.to Int).take j) (fun j=>(a.to Int).length - j) (fun _=>rfl) ?_ 0 ⟨Nat.zero_le _,rfl⟩
 intro j ⟨hj,hpre⟩ ih
 apply exec_sound (noCtr _) 200
 rw [eqi_go]
 refine ⟨fun hc _=>?_,fun hc=>ret_lb ?_⟩
 ·have hc : j < (a.to Int).length := by have := of_decide_eq_true hc; omega
  obtain ⟨c1,c2,c3⟩ := int_at ha hc
  obtain ⟨e1,e2,e3⟩ := int_at hb (hc' ▸ hc)
  refine ⟨c1,c2,e1,e2,fun h=>ret_lb ?_,fun h=>?_⟩
  ·refine same_not fun he=>?_
   simp only [c3,e3,he,bne_self_eq_false] at h
   cases h
  ·have hx : (a.to Int)[j] = (b.to Int)[j]'(hc' ▸ hc) := by rw [c3,e3] at h; simpa using h
   have := ih (j + 1) ⟨hc,take_succ_eq hc (hc' ▸ hc) hpre hx⟩ (by omega)
   rw [← wrap_succ hc (by omega)] at this
   exact this
 ·have := of_decide_eq_false hc
  exact (decide_eq_true (list_eq_of hc' (by omega) hpre)).symm

theorem lawCon : Law Try.prog 28 ((rdD.two rdInt).sp spHasC) := by
 refine law_in _ (by kernel_rfl) fun H w ⟨a,n⟩ hok hp=>?_
 obtain ⟨ha,hlen⟩ := hp _ (List.mem_singleton.2 rfl)
 simp only at ha hlen
 apply exec_sound (cs := [(44,ctrOf ((rdD.two rdInt).sp spIxI))]) (by intro x hx; rw [List.mem_singleton.1 hx]; exact ctrOf_ok lawIxI) 200
 rw [show (rdD.two rdInt).canon (a,n) = [.dat a,.int .i64 n] from rfl,con_in]
 refine ⟨⟨ha,hlen⟩,ret_bool ?_⟩
 rw [idxG_any,List.contains_eq_any_beq]
 congr 1
theorem lawEqIS : Law Try.prog 18 ((rdD.two rdD).sp spIntsS) :=
 law_sure lawEqI fun b=>⟨_,_,_,rfl,rfl,fun hp=>by
  obtain ⟨h1,h2,h3,h4⟩ := hp _ (List.mem_singleton.2 rfl)
  exact ⟨fun p hp'=>by rw [List.mem_singleton.1 hp']; exact ⟨h1,h2,h3⟩,decide_eq_true h4⟩⟩
end Go.Proofs.Ytodhhmjilnfecaa
end
section
open Go
namespace Sx
noncomputable def grP (ds : Nat → D) (g : Gr) : SV := .agg [.dat (pI (ds 0) g.hist.sizes),.dat (pW (ds 1) g.hist.writes),.dat (pE (ds 2) g.hist.events),.dat (pI (ds 3) g.waiting),.dat (pI (ds 4) g.held),.bool g.frozen]
def grL (x : GrD) : Bool := hiL x.h && (setL x.wt && setL x.hd)
theorem grL_is {x : GrD} (h : grL x = true) : x.Right := by
 simp only [grL,Bool.and_eq_true] at h
 obtain ⟨a,b,c⟩ := h
 exact ⟨hiL_is a,(setL_is b).1,(setL_is c).1,(setL_is b).2,(setL_is c).2⟩
def wtL (x : WtD) : Bool := x.d.allSec && decide (x.d.len ≤ 1048576)
theorem wtL_is {x : WtD} (h : wtL x = true) : x.Ok := by
 simp only [wtL,Bool.and_eq_true,decide_eq_true_eq] at h
 exact ⟨allSec_is h.1,h.2⟩
def w1 : Wt := ⟨0,0,[oneS]⟩
def G0 : Gr := ⟨⟨[4],[],[]⟩,[],[],false⟩
def G1 : Gr := ⟨⟨[4],[w1],[⟨0,0⟩]⟩,[0],[],false⟩
def G2 : Gr := ⟨⟨[4],[w1,w1],[⟨0,0⟩,⟨0,1⟩]⟩,[0,1],[],false⟩
def G3 : Gr := ⟨⟨[4],[w1,w1,w1],[⟨0,0⟩,⟨0,1⟩,⟨0,2⟩]⟩,[0,1,2],[],false⟩
def G4 : Gr := ⟨⟨[4],[w1,w1,w1],[⟨0,0⟩,⟨0,1⟩,⟨0,2⟩,⟨1,0⟩]⟩,[1,2],[],false⟩
def G5 : Gr := ⟨⟨[4],[w1,w1,w1],[⟨0,0⟩,⟨0,1⟩,⟨0,2⟩,⟨1,0⟩]⟩,[1,2],[],true⟩
def G6 : Gr := ⟨⟨[4],[w1,w1,w1],[⟨0,0⟩,⟨0,1⟩,⟨0,2⟩,⟨1,0⟩]⟩,[2],[1],true⟩
def G7 : Gr := ⟨⟨[4],[w1,w1,w1,w1],[⟨0,0⟩,⟨0,1⟩,⟨0,2⟩,⟨1,0⟩,⟨0,3⟩]⟩,[2,3],[1],true⟩
def G8 : Gr := ⟨⟨[4],[w1,w1,w1,w1],[⟨0,0⟩,⟨0,1⟩,⟨0,2⟩,⟨1,0⟩,⟨0,3⟩]⟩,[2],[1,3],true⟩
def G9 : Gr := ⟨⟨[4],[w1,w1,w1,w1],[⟨0,0⟩,⟨0,1⟩,⟨0,2⟩,⟨1,0⟩,⟨0,3⟩,⟨1,1⟩,⟨1,3⟩]⟩,[2],[],false⟩
def G10 : Gr := ⟨⟨[4],[w1,w1,w1,w1],[⟨0,0⟩,⟨0,1⟩,⟨0,2⟩,⟨1,0⟩,⟨0,3⟩,⟨1,1⟩,⟨1,3⟩,⟨1,2⟩]⟩,[],[],false⟩
noncomputable def spNewT (x : D) : SpecR := iff (setL x) (tabD (newG (x.to Int)) [(G0,0)] fun r=>.data [] fun ds=>.tup [grP ds r.1,.int .i64 r.2])
noncomputable def spIssT (x : GrD × WtD) : SpecR := iff (grL x.1 && (decide (x.1.h.e.len ≤ 1000000) && wtL x.2)) (tabD (issueG x.1.gr x.2.wt) [(G1,0,0),(G2,1,0),(G3,2,0),(G7,3,0)] fun r=>.data [] fun ds=>.tup [grP ds r.1,.int .i64 r.2.1,.int .i64 r.2.2])
noncomputable def spDurT (x : GrD × Int) : SpecR := iff (grL x.1) (tabD (durG x.1.gr x.2) [(G4,[0],0),(G6,[],0),(G8,[],0)] fun r=>.data [] fun ds=>.tup [grP ds r.1,.dat (pI (ds 5) r.2.1),.int .i64 r.2.2])
noncomputable def spFrzT (x : GrD) : SpecR := iff (grL x) (tabD (freezeG x.gr) [(G5,3,0)] fun r=>.data [] fun ds=>.tup [grP ds r.1,.int .i64 r.2.1,.int .i64 r.2.2])
noncomputable def spThawT (x : GrD) : SpecR := iff (grL x) (tabD (thawG x.gr) [(G9,[1,3],0)] fun r=>.data [] fun ds=>.tup [grP ds r.1,.dat (pI (ds 5) r.2.1),.int .i64 r.2.2])
noncomputable def spRecT (x : GrD × D) : SpecR := iff (grL x.1 && setL x.2) (tabD (recoverG x.1.gr (x.2.to Int)) [(G10,[2],0),(zGr,[],27)] fun r=>.data [] fun ds=>.tup [grP ds r.1,.dat (pI (ds 5) r.2.1),.int .i64 r.2.2])
end Sx
end
section
open Go Go.Proofs Sx
namespace Go.Proofs.Ytodhhmjilnfecaa
set_option maxRecDepth 100000
noncomputable def dsP (ds : Nat → D) (g : Gr) (l : List Int) : Nat → D := fun i=>match i with | 0=>(ds 0).like g.hist.sizes | 1=>(ds 1).like g.hist.writes | 2=>(ds 2).like g.hist.events | 3=>(ds 3).like g.waiting | 4=>(ds 4).like g.held | _=>(ds 5).like l
theorem grP_dsP (ds : Nat → D) (g : Gr) (l : List Int) : grP (dsP ds g l) g = grSV ds g := by
 simp only [grP,grSV,dsP,pI,pW,pE,plain_like]
theorem pI_dsP (ds : Nat → D) (g : Gr) (l : List Int) : pI (dsP ds g l 5) l = (ds 5).like l := by simp only [dsP,pI,plain_like]
theorem lawNewT : Law Try.prog 25 (rdD.one.sp spNewT) :=
 law_tab lawNewG _ _ _ _ fun b h=>⟨_,_,rfl,fun _ p hp=>by rw [List.mem_singleton.1 hp]; exact setL_is h,fun ds=>⟨dsP ds (newG (b.to Int)).1 [],by simp only [grP_dsP]⟩⟩
theorem lawIssT : Law Try.prog 13 ((rdGr.two rdWt).sp spIssT) :=
 law_tab lawIssueG _ _ _ _ fun b h=>⟨_,_,rfl,fun _ p hp=>by
  rw [List.mem_singleton.1 hp]
  simp only [Bool.and_eq_true,decide_eq_true_eq] at h
  exact ⟨grL_is h.1,h.2.1,wtL_is h.2.2⟩,fun ds=>⟨dsP ds (issueG b.1.gr b.2.wt).1 [],by simp only [grP_dsP]⟩⟩
theorem lawDurT : Law Try.prog 15 ((rdGr.two rdInt).sp spDurT) :=
 law_tab lawDurG _ _ _ _ fun b h=>⟨_,_,rfl,fun _ p hp=>by rw [List.mem_singleton.1 hp]; exact grL_is h,fun ds=>⟨dsP ds (durG b.1.gr b.2).1 (durG b.1.gr b.2).2.1,by simp only [grP_dsP,pI_dsP]⟩⟩
theorem lawFrzT : Law Try.prog 19 (rdGr.one.sp spFrzT) :=
 law_tab lawFrzG _ _ _ _ fun b h=>⟨_,_,rfl,fun _ p hp=>by rw [List.mem_singleton.1 hp]; exact grL_is h,fun ds=>⟨dsP ds (freezeG b.gr).1 [],by simp only [grP_dsP]⟩⟩
theorem lawThawT : Law Try.prog 21 (rdGr.one.sp spThawT) :=
 law_tab lawThawG _ _ _ _ fun b h=>⟨_,_,rfl,fun _ p hp=>by rw [List.mem_singleton.1 hp]; exact grL_is h,fun ds=>⟨dsP ds (thawG b.gr).1 (thawG b.gr).2.1,by simp only [grP_dsP,pI_dsP]⟩⟩
theorem lawRecT : Law Try.prog 23 ((rdGr.two rdD).sp spRecT) :=
 law_tab lawRecG _ _ _ _ fun b h=>⟨_,_,rfl,fun _ p hp=>by
  rw [List.mem_singleton.1 hp]
  simp only [Bool.and_eq_true] at h
  exact ⟨grL_is h.1,setL_is h.2⟩,fun ds=>⟨dsP ds (recoverG b.1.gr (b.2.to Int)).1 (recoverG b.1.gr (b.2.to Int)).2.1,by simp only [grP_dsP,pI_dsP]⟩⟩
noncomputable def ctTG : Ctrs := [(25,ctrOf (rdD.one.sp spNewT)),(13,ctrOf ((rdGr.two rdWt).sp spIssT)),(15,ctrOf ((rdGr.two rdInt).sp spDurT)),(19,ctrOf (rdGr.one.sp spFrzT)),(21,ctrOf (rdGr.one.sp spThawT)),(23,ctrOf ((rdGr.two rdD).sp spRecT)),(18,ctrOf ((rdD.two rdD).sp spIntsS))]
theorem ctTGOk : Ctrs.Ok Try.prog ctTG := by
 intro x hx
 simp only [ctTG,List.mem_cons,List.not_mem_nil,or_false] at hx
 rcases hx with rfl | rfl | rfl | rfl | rfl | rfl | rfl
 ·exact ctrOf_ok lawNewT
 ·exact ctrOf_ok lawIssT
 ·exact ctrOf_ok lawDurT
 ·exact ctrOf_ok lawFrzT
 ·exact ctrOf_ok lawThawT
 ·exact ctrOf_ok lawRecT
 ·exact ctrOf_ok lawEqIS
end Go.Proofs.Ytodhhmjilnfecaa
end
section
open Go Go.Proofs Sx
namespace Go.Proofs.Ytodhhmjilnfecaa
set_option maxRecDepth 100000
set_option maxHeartbeats 0
section
theorem awake_in : (execU Try.prog ctTG (fun _=>true) 900 (entry Try.prog 12 [])).dec =
 Tree.all fun hs =>
 .all fun hs =>
 .all fun hs =>
 .all fun hs =>
 .all fun hs =>
 .all fun hs =>
 .all fun hs =>
 .all fun hs_1 =>
 .all fun hs_2 =>
 .all fun hs_3 =>
 .all fun hs_4 =>
 .all fun hs_5 =>
 .all fun hs_6 =>
 .all fun hs_7 =>
 .all fun hs_8 =>
 .all fun hs_9 =>
 .all fun hs_10 =>
 .need
 (D.Is Int (pI (hs 0 5) [0]) ∧
 D.Is Int (D.slc (D.hd (hs_10 0 0)) 1 [[D.int .i64 0]]) ∧
 D.len (pI (hs 0 5) [0]) ≤ 1048576 ∧
 D.to Int (pI (hs 0 5) [0]) =
 D.to Int (D.slc (D.hd (hs_10 0 0)) 1 [[D.int .i64 0]]))
 (.all fun hs =>
 .need
 (D.Is Int (pI (hs_5 0 5) [1,3]) ∧
 D.Is Int
 (D.slc (D.hd (hs 0 0)) 1 [[D.int .i64 1],[D.int .i64 3]]) ∧
 D.len (pI (hs_5 0 5) [1,3]) ≤ 1048576 ∧
 D.to Int (pI (hs_5 0 5) [1,3]) =
 D.to Int
 (D.slc (D.hd (hs 0 0)) 1
 [[D.int .i64 1],[D.int .i64 3]]))
 (.all fun hs =>
 .need
 (D.Is Int (pI (hs_5 0 3) [2]) ∧
 D.Is Int (D.slc (D.hd (hs 0 0)) 1 [[D.int .i64 2]]) ∧
 D.len (pI (hs_5 0 3) [2]) ≤ 1048576 ∧
 D.to Int (pI (hs_5 0 3) [2]) =
 D.to Int (D.slc (D.hd (hs 0 0)) 1 [[D.int .i64 2]]))
 (.all fun hs =>
 .need
 (D.Is Int (pI (hs_7 0 5) [2]) ∧
 D.Is Int (D.slc (D.hd (hs 0 0)) 1 [[D.int .i64 2]]) ∧
 D.len (pI (hs_7 0 5) [2]) ≤ 1048576 ∧
 D.to Int (pI (hs_7 0 5) [2]) =
 D.to Int (D.slc (D.hd (hs 0 0)) 1 [[D.int .i64 2]]))
 (.ret
 (.bool
 (decide
 ((↑(D.len
 (pE (hs_7 0 2)
 [Ev.mk 0 0,Ev.mk 0 1,Ev.mk 0 2,Ev.mk 1 0,Ev.mk 0 3,
 Ev.mk 1 1,Ev.mk 1 3,Ev.mk 1 2])) :
 Int) =
 8))))))) := by kernel_rfl

end
end Go.Proofs.Ytodhhmjilnfecaa
end
section
open Go Go.Proofs Sx
namespace Sx
def spSameGS (x : GrD × GrD) : SpecR := .scalar [x.1.Right ∧ x.2.h.s.Is Int ∧ x.2.h.w.Is Wt ∧ x.2.h.e.Is Ev ∧ x.2.wt.Is Int ∧ x.2.hd.Is Int ∧ x.1.gr = x.2.gr] (.lb true)
end Sx
namespace Go.Proofs.Ytodhhmjilnfecaa
set_option maxRecDepth 100000
set_option maxHeartbeats 0
theorem lawAwakeG : Law Try.prog 12 (rdNone.sp spTrue) := by
 refine law_in _ (by kernel_rfl) fun H w _ hok hp=>?_
 refine dec_sound ctTGOk (fun _=>true) 900 (entry Try.prog 12 []) awake_in ?_
 repeat' first
  | with_reducible refine holds_all.2 fun _=>?_
  | refine holds_need.2 ⟨⟨allInt_is rfl,allInt_is rfl,Nat.le_of_ble_eq_true rfl,rfl⟩,?_⟩
  | exact ret_sure rfl
theorem lawSameGS : Law Try.prog 17 ((rdGr.two rdGr).sp spSameGS) :=
 law_sure lawSameG fun b=>⟨_,_,_,rfl,rfl,fun hp=>by
  obtain ⟨h1,h2,h3,h4,h5,h6,h7⟩ := hp _ (List.mem_singleton.2 rfl)
  exact ⟨fun p hp'=>by rw [List.mem_singleton.1 hp']; exact ⟨h1,h2,h3,h4,h5,h6⟩,decide_eq_true h7⟩⟩
noncomputable def ctLG : Ctrs := [(11,ctrOf (rdGr.one.sp spFewG)),(12,ctrOf (rdNone.sp spTrue)),(17,ctrOf ((rdGr.two rdGr).sp spSameGS)),(18,ctrOf ((rdD.two rdD).sp spIntsS)),
 (25,ctrOf (rdD.one.sp spNewG)),(29,ctrOf (rdD.one.sp spNewG)),(30,ctrOf (rdGr.one.sp spCkG)),(31,ctrOf (rdGr.one.sp spCkG)),
 (13,ctrOf ((rdGr.two rdWt).sp spIssueG)),(14,ctrOf ((rdGr.two rdWt).sp spIssueG)),(15,ctrOf ((rdGr.two rdInt).sp spDurG)),(16,ctrOf ((rdGr.two rdInt).sp spDurR)),
 (19,ctrOf (rdGr.one.sp spFrzG)),(20,ctrOf (rdGr.one.sp spFrzG)),(21,ctrOf (rdGr.one.sp spThawG)),(22,ctrOf (rdGr.one.sp spThawR)),
 (23,ctrOf ((rdGr.two rdD).sp spRecG)),(24,ctrOf ((rdGr.two rdD).sp spRecR))]
theorem ctLGOk : Ctrs.Ok Try.prog ctLG := by
 intro x hx
 simp only [ctLG,List.mem_cons,List.not_mem_nil,or_false] at hx
 rcases hx with rfl | rfl | rfl | rfl | rfl | rfl | rfl | rfl | rfl | rfl | rfl | rfl | rfl | rfl | rfl | rfl | rfl | rfl
 ·exact ctrOf_ok lawFewG
 ·exact ctrOf_ok lawAwakeG
 ·exact ctrOf_ok lawSameGS
 ·exact ctrOf_ok lawEqIS
 ·exact ctrOf_ok lawNewG
 ·exact ctrOf_ok lawNewGR
 ·exact ctrOf_ok lawCkG
 ·exact ctrOf_ok lawRkG
 ·exact ctrOf_ok lawIssueG
 ·exact ctrOf_ok lawIssGR
 ·exact ctrOf_ok lawDurG
 ·exact ctrOf_ok lawDurGR
 ·exact ctrOf_ok lawFrzG
 ·exact ctrOf_ok lawFrzGR
 ·exact ctrOf_ok lawThawG
 ·exact ctrOf_ok lawThawGR
 ·exact ctrOf_ok lawRecG
 ·exact ctrOf_ok lawRecGR
end Go.Proofs.Ytodhhmjilnfecaa
end
section
open Go Go.Proofs Sx
namespace Go.Proofs.Ytodhhmjilnfecaa
set_option maxRecDepth 100000
set_option maxHeartbeats 0
section
variable (ha hb hc wt hd d : D) (fz : Bool) (v s n : Int)




end
end Go.Proofs.Ytodhhmjilnfecaa
end
section
open Go Go.Proofs Sx
namespace Sx
end Sx
namespace Go.Proofs.Ytodhhmjilnfecaa
set_option maxRecDepth 100000
set_option maxHeartbeats 0
end Go.Proofs.Ytodhhmjilnfecaa
end
section
open Go Go.Proofs Sx
namespace Go.Proofs.Ytodhhmjilnfecaa
set_option maxRecDepth 100000
set_option maxHeartbeats 0
noncomputable def ctRun : Ctrs := (34,ctrOf (rdInt.one.sp spFst)) :: ctLG
section
variable (ha hb hc wt hd d e : D) (fz : Bool) (k v s n : Int)
theorem run_in : 
 let z1 := (durG (GrD.gr (GrD.mk (HiD.mk ha hb hc) wt hd fz)) (D.getInt wt (Int.toNat (Int.tmod (if n > 0 then n else 0) (↑(D.len wt) : Int))) 0))
 let z2 := (firstN (Int.tmod (if n > 0 then n else 0) (IntKind.wrap .i64 ((↑(D.len hb) : Int) + 1))))
 let z3 := (issueG (GrD.gr (GrD.mk (HiD.mk ha hb hc) wt hd fz)) (WtD.wt (WtD.mk v s d)))
 let z4 : Tree := (.ret (SV.tup [.agg [.dat ha,.dat hb,.dat hc,.dat wt,.dat hd,.bool fz],.nils]))
 let z5 := (Prod.fst (freezeG (GrD.gr (GrD.mk (HiD.mk ha hb hc) wt hd fz))))
 let z6 := (Prod.fst (thawG (GrD.gr (GrD.mk (HiD.mk ha hb hc) wt hd fz))))
 exec Try.prog ctRun 400 (entry Try.prog 27 [.agg [.dat ha,.dat hb,.dat hc,.dat wt,.dat hd,.bool fz],.agg [.int .i64 k,.int .i64 v,.int .i64 s,.dat d,.int .i64 n]]) =
 Tree.br (decide (k = 0)) (.need (GrD.Right (GrD.mk (HiD.mk ha hb hc) wt hd fz) ∧ D.len hc ≤ 1000000 ∧ WtD.Ok (WtD.mk v s d)) (.all fun hs=>.br (Prod.snd (Prod.snd z3) != 0) z4 (.ret (SV.tup [.agg [.dat
 (D.like (hs 0 0) (Hist.sizes (Gr.hist (Prod.fst z3)))),.dat (D.like (hs 0 1) (Hist.writes (Gr.hist (Prod.fst z3)))),.dat (D.like (hs 0 2) (Hist.events (Gr.hist (Prod.fst z3)))),.dat (D.like (hs 0 3)
 (Gr.waiting (Prod.fst z3))),.dat (D.like (hs 0 4) (Gr.held (Prod.fst z3))),.bool (Gr.frozen (Prod.fst z3))],.nils])))) (.br (decide (k = 1)) (.br (decide ((↑(D.len wt) : Int) = 0)) z4 (.all fun hs=>.need
 ((↑(D.len wt) : Int) ≠ 0) (.need (0 ≤ Int.tmod (if n > 0 then n else 0) (↑(D.len wt) : Int) ∧ Int.tmod (if n > 0 then n else 0) (↑(D.len wt) : Int) < (↑(D.len wt) : Int) ∧ D.sz wt = 1) (.need (D.HasCell wt
 (Int.toNat (Int.tmod (if n > 0 then n else 0) (↑(D.len wt) : Int))) 0 (FT.int .i64)) (.need (GrD.Right (GrD.mk (HiD.mk ha hb hc) wt hd fz)) (.br (Prod.snd (Prod.snd z1) != 0) z4 (.ret (SV.tup [.agg [.dat
 (D.like (hs 12 0) (Hist.sizes (Gr.hist (Prod.fst z1)))),.dat (D.like (hs 12 1) (Hist.writes (Gr.hist (Prod.fst z1)))),.dat (D.like (hs 12 2) (Hist.events (Gr.hist (Prod.fst z1)))),.dat (D.like (hs 12 3)
 (Gr.waiting (Prod.fst z1))),.dat (D.like (hs 12 4) (Gr.held (Prod.fst z1))),.bool (Gr.frozen (Prod.fst z1))],.dat (D.like (hs 12 5) (Prod.fst (Prod.snd z1)))])))))))) (.br (decide (k = 2)) (.need (GrD.Right
 (GrD.mk (HiD.mk ha hb hc) wt hd fz)) (.all fun hs=>.br (Prod.snd (Prod.snd (freezeG (GrD.gr (GrD.mk (HiD.mk ha hb hc) wt hd fz)))) != 0) z4 (.ret (SV.tup [.agg [.dat (D.like (hs 0 0) (Hist.sizes (Gr.hist z5))),.dat
 (D.like (hs 0 1) (Hist.writes (Gr.hist z5))),.dat (D.like (hs 0 2) (Hist.events (Gr.hist z5))),.dat (D.like (hs 0 3) (Gr.waiting z5)),.dat (D.like (hs 0 4) (Gr.held z5)),.bool (Gr.frozen z5)],.nils]))))
 (.br (decide (k = 3)) (.need (GrD.Right (GrD.mk (HiD.mk ha hb hc) wt hd fz)) (.all fun hs=>.br (Prod.snd (Prod.snd (thawG (GrD.gr (GrD.mk (HiD.mk ha hb hc) wt hd fz)))) != 0) z4 (.ret (SV.tup [.agg [.dat
 (D.like (hs 0 0) (Hist.sizes (Gr.hist z6))),.dat (D.like (hs 0 1) (Hist.writes (Gr.hist z6))),.dat (D.like (hs 0 2) (Hist.events (Gr.hist z6))),.dat (D.like (hs 0 3) (Gr.waiting z6)),.dat (D.like (hs 0 4)
 (Gr.held z6)),.bool (Gr.frozen z6)],.dat (D.like (hs 0 5) (Prod.fst (Prod.snd (thawG (GrD.gr (GrD.mk (HiD.mk ha hb hc) wt hd fz))))))])))) (.all fun hs=>.need (IntKind.wrap .i64 ((↑(D.len hb) : Int) + 1) ≠ 0)
 (.need (Int.tmod (if n > 0 then n else 0) (IntKind.wrap .i64 ((↑(D.len hb) : Int) + 1)) ≤ 1000000) (.need (GrD.Right (GrD.mk (HiD.mk ha hb hc) wt hd fz) ∧ D.Is Int (D.like (hs 10 0) z2) ∧ D.len (D.like
 (hs 10 0) z2) ≤ 1048576) (.br (Prod.snd (Prod.snd (recoverG (GrD.gr (GrD.mk (HiD.mk ha hb hc) wt hd fz)) (D.to Int (D.like (hs 10 0) z2)))) != 0) z4 (.ret (SV.tup [.agg [.dat (D.like (hs 11 0) (Hist.sizes
 (Gr.hist (Prod.fst (recoverG (GrD.gr (GrD.mk (HiD.mk ha hb hc) wt hd fz)) (D.to Int (D.like (hs 10 0) z2))))))),.dat (D.like (hs 11 1) (Hist.writes (Gr.hist (Prod.fst (recoverG (GrD.gr (GrD.mk (HiD.mk ha hb hc) wt hd fz))
 (D.to Int (D.like (hs 10 0) z2))))))),.dat (D.like (hs 11 2) (Hist.events (Gr.hist (Prod.fst (recoverG (GrD.gr (GrD.mk (HiD.mk ha hb hc) wt hd fz)) (D.to Int (D.like (hs 10 0) z2))))))),.dat (D.like
 (hs 11 3) (Gr.waiting (Prod.fst (recoverG (GrD.gr (GrD.mk (HiD.mk ha hb hc) wt hd fz)) (D.to Int (D.like (hs 10 0) z2)))))),.dat (D.like (hs 11 4) (Gr.held (Prod.fst (recoverG (GrD.gr (GrD.mk (HiD.mk ha hb hc) wt hd fz))
 (D.to Int (D.like (hs 10 0) z2)))))),.bool (Gr.frozen (Prod.fst (recoverG (GrD.gr (GrD.mk (HiD.mk ha hb hc) wt hd fz)) (D.to Int (D.like (hs 10 0) z2)))))],.dat (D.like (hs 11 5) (Prod.fst (Prod.snd
 (recoverG (GrD.gr (GrD.mk (HiD.mk ha hb hc) wt hd fz)) (D.to Int (D.like (hs 10 0) z2))))))]))))))))) := by
 intros; kernel_rfl

theorem ackd_in : exec Try.prog [] 200 (entry Try.prog 32 [.agg [.dat ha,.dat hb,.dat hc]]) =
 Tree.leaf
 (Conf.mk
 (SFrm.mk 32 none none
 [Item.inLoop (cAt Try.prog 32 [1,1,0,1,0,0]),Item.inBlock 0,Item.code (cAt Try.prog 32 [1,1,1])]
 (mkJ 0 [(3,.nils),(7,.dat hc),(8,.int .i64 (↑(D.len hc) : Int)),(9,.int .i64 0)] 0
 23))
 [] []) := by kernel_rfl


theorem ixs_in : exec Try.prog [] 200 (entry Try.prog 93 [.dat d,.fn 63 [] []]) =
 Tree.leaf
 (Conf.mk
 (SFrm.mk 93 none none
 [Item.inLoop (cAt Try.prog 93 [1,0,1,0,0]),Item.inBlock 0,Item.code (cAt Try.prog 93 [1,1])]
 (mkJ 0 [(0,.dat d),(1,SV.fn 63 [] []),(7,.int .i64 (↑(D.len d) : Int)),(8,.int .i64 0)]
 0 19))
 [] []) := by kernel_rfl

theorem ixn_in : exec Try.prog [] 200 (entry Try.prog 71 [.dat d,.fn 61 [] []]) =
 Tree.leaf
 (Conf.mk
 (SFrm.mk 71 none none
 [Item.inLoop (cAt Try.prog 71 [1,0,1,0,0]),Item.inBlock 0,Item.code (cAt Try.prog 71 [1,1])]
 (mkJ 0 [(0,.dat d),(1,SV.fn 61 [] []),(7,.int .i64 (↑(D.len d) : Int)),(8,.int .i64 0)]
 0 19))
 [] []) := by kernel_rfl

end
end Go.Proofs.Ytodhhmjilnfecaa
end
section
open Go Go.Proofs Sx
namespace Go.Proofs.Ytodhhmjilnfecaa
set_option maxRecDepth 100000
set_option maxHeartbeats 0
noncomputable def ixsL (d : D) (j : Int) : Conf := Conf.mk (SFrm.mk 93 none none [Item.inLoop (cAt Try.prog 93 [1,0,1,0,0]),Item.inBlock 0,Item.code (cAt Try.prog 93 [1,1])] (mkJ 0 [(0,.dat d),(1,SV.fn 63 [] []),(7,.int .i64 (d.len : Int)),(8,.int .i64 j)] 0 19)) [] []
noncomputable def ixnL (d : D) (j : Int) : Conf := Conf.mk (SFrm.mk 71 none none [Item.inLoop (cAt Try.prog 71 [1,0,1,0,0]),Item.inBlock 0,Item.code (cAt Try.prog 71 [1,1])] (mkJ 0 [(0,.dat d),(1,SV.fn 61 [] []),(7,.int .i64 (d.len : Int)),(8,.int .i64 j)] 0 19)) [] []
noncomputable def ackL (d r : D) (j : Int) : Conf := Conf.mk (SFrm.mk 32 none none [Item.inLoop (cAt Try.prog 32 [1,1,0,1,0,0]),Item.inBlock 0,Item.code (cAt Try.prog 32 [1,1,1])] (mkJ 0 [(3,.vec 0),(7,.dat d),(8,.int .i64 (d.len : Int)),(9,.int .i64 j)] 0 23)) [] [(0,.arr 3 r)]
section
variable (d r : D) (j : Int)
theorem ixs_go : exec Try.prog [] 200 (unroll (ixsL d j)) =
 Tree.br (decide (j < (↑(D.len d) : Int)))
 (.need (0 ≤ j ∧ j < (↑(D.len d) : Int) ∧ D.sz d = 5)
 (.need
 (D.HasCells d (Int.toNat j) 0
 [FT.int .i64,FT.int .i64,FT.int .i64,FT.slc,FT.int .i64])
 (.br (decide ((↑(D.len (D.cell d (Int.toNat j) 3)) : Int) > 30)) (.ret (.int .i64 j))
 (.leaf
 (Conf.mk
 (SFrm.mk 93 none none
 [Item.inLoop (cAt Try.prog 93 [1,0,1,0,0]),Item.inBlock 0,Item.code (cAt Try.prog 93 [1,1])]
 (mkJ 0
 [(0,.dat d),(1,SV.fn 63 [] []),(7,.int .i64 (↑(D.len d) : Int)),
 (8,.int .i64 (IntKind.wrap .i64 (j + 1)))]
 0 19))
 [] [])))))
 (.ret (.int .i64 (Int.neg 1))) := by kernel_rfl

theorem ixn_go : exec Try.prog [] 200 (unroll (ixnL d j)) =
 Tree.br (decide (j < (↑(D.len d) : Int)))
 (.need (0 ≤ j ∧ j < (↑(D.len d) : Int) ∧ D.sz d = 1)
 (.need (D.HasCell d (Int.toNat j) 0 (FT.int .i64))
 (.br (decide (D.getInt d (Int.toNat j) 0 > 24)) (.ret (.int .i64 j))
 (.leaf
 (Conf.mk
 (SFrm.mk 71 none none
 [Item.inLoop (cAt Try.prog 71 [1,0,1,0,0]),Item.inBlock 0,Item.code (cAt Try.prog 71 [1,1])]
 (mkJ 0
 [(0,.dat d),(1,SV.fn 61 [] []),(7,.int .i64 (↑(D.len d) : Int)),
 (8,.int .i64 (IntKind.wrap .i64 (j + 1)))]
 0 19))
 [] [])))))
 (.ret (.int .i64 (Int.neg 1))) := by kernel_rfl

theorem ackl_go : exec Try.prog [] 200 (unroll (ackL d r j)) =
 Tree.br (decide (j < (↑(D.len d) : Int)))
 (.need (0 ≤ j ∧ j < (↑(D.len d) : Int) ∧ D.sz d = 2)
 (.need (D.HasCells d (Int.toNat j) 0 [FT.int .i64,FT.int .i64])
 (.br (decide (D.getInt d (Int.toNat j) 0 = 1))
 (.all fun hs =>
 .need
 (D.sz r = 1 ∧
 D.Fits (D.slc (D.hd (hs 0 0)) 1 [[D.int .i64 (D.getInt d (Int.toNat j) 1)]]) 1 ∧
 (D.len r + D.len (D.slc (D.hd (hs 0 0)) 1 [[D.int .i64 (D.getInt d (Int.toNat j) 1)]])) * 8 ≤
 140737488355328 ∧
 D.len r + D.len (D.slc (D.hd (hs 0 0)) 1 [[D.int .i64 (D.getInt d (Int.toNat j) 1)]]) ≤
 9223372036854775807)
 (.all fun hs_1 =>
 .leaf
 (Conf.mk
 (SFrm.mk 32 none none
 [Item.inLoop (cAt Try.prog 32 [1,1,0,1,0,0]),Item.inBlock 0,
 Item.code (cAt Try.prog 32 [1,1,1])]
 (mkJ 0
 [(3,.vec 0),(7,.dat d),(8,.int .i64 (↑(D.len d) : Int)),
 (9,.int .i64 (IntKind.wrap .i64 (j + 1)))]
 0 23))
 []
 [(0,
 OBlk.arr 3
 (D.slc (D.hd (hs_1 0 0)) 1
 (List.append (D.rows r)
 (D.rows (D.slc (D.hd (hs 0 0)) 1 [[D.int .i64 (D.getInt d (Int.toNat j) 1)]])))))])))
 (.leaf
 (Conf.mk
 (SFrm.mk 32 none none
 [Item.inLoop (cAt Try.prog 32 [1,1,0,1,0,0]),Item.inBlock 0,Item.code (cAt Try.prog 32 [1,1,1])]
 (mkJ 0
 [(3,.vec 0),(7,.dat d),(8,.int .i64 (↑(D.len d) : Int)),
 (9,.int .i64 (IntKind.wrap .i64 (j + 1)))]
 0 23))
 [] [(0,OBlk.arr 3 r)])))))
 (.ret (.dat r)) := by kernel_rfl

end
end Go.Proofs.Ytodhhmjilnfecaa
end
section
open Go
namespace Sx
structure StD where
 k : Int
 w : WtD
 n : Int
def StD.st (x : StD) : St := ⟨x.k,x.w.wt,x.n⟩
def rdSt : Rd1 StD where
 read x := match x with
  | .agg [.int .i64 k,.int .i64 v,.int .i64 s,d,.int .i64 n]=>match rdD.read d with
   | some d=>some ⟨k,⟨v,s,d⟩,n⟩
   | none=>none
  | _=>none
 canon x := .agg [.int .i64 x.k,.int .i64 x.w.v,.int .i64 x.w.s,.dat x.w.d,.int .i64 x.n]
 right H E x b h hok := by
  split at h
  ·split at h
   ·rename_i h1
    cases h
    obtain ⟨_,_,_,a4,_,_⟩ := hok
    obtain ⟨i1,i2⟩ := rdD.right H E _ _ h1 a4
    refine ⟨?_,trivial,trivial,trivial,i2,trivial,trivial⟩
    simp only [SV.den,SV.denL,i1]
    rfl
   ·cases h
  ·cases h
theorem pick_int {n : Int} {m : Nat} (hm : 0 < m) : Int.tmod (if n > 0 then n else 0) (m : Int) = (pickI n m : Int) := by
 unfold pickI
 have e : (if n > 0 then n else 0) = ((max 0 n).toNat : Int) := by split <;> omega
 rw [e,← Int.ofNat_tmod]
theorem pick_lt {n : Int} {m : Nat} (hm : 0 < m) : pickI n m < m := Nat.mod_lt _ hm
def fewS (s : List Int) (l : List St) : Bool := decide (l.length ≤ 40) && (decide (s.length ≤ 8) && (!(s.any fun n=>decide (n > 24)) && !(l.any fun x=>decide (x.wt.data.length > 30))))
def spIxN (x : D × Unit) : SpecR := .scalar [x.1.Is Int ∧ x.1.len ≤ 1048576] (.int .i64 (idxG (x.1.to Int) fun n=>decide (n > 24)))
def spIxS (x : D × Unit) : SpecR := .scalar [x.1.Is St ∧ x.1.len ≤ 1048576] (.int .i64 (idxG (x.1.to St) fun s=>decide (s.wt.data.length > 30)))
def spFewS (x : D × D) : SpecR := .scalar [x.1.Is Int ∧ x.2.Is St] (.bool (fewS (x.1.to Int) (x.2.to St)))
noncomputable def spAcks (x : HiD) : SpecR := .data [x.e.Is Ev ∧ x.e.len ≤ 1048576] fun ds=>.dat ((ds 0).like (acksOf (x.e.to Ev)))
noncomputable def spRun (x : GrD × StD) : SpecR := .data [x.1.Right ∧ x.1.h.e.len ≤ 900000 ∧ x.1.h.w.len ≤ 900000 ∧ x.2.w.Ok] fun ds=>.tup [grSV ds (runG x.1.gr x.2.st).1,.dat ((ds 5).like (runG x.1.gr x.2.st).2)]
theorem acksOf_take {l : List Ev} {j : Nat} (hj : j < l.length) : acksOf (l.take (j + 1)) = if l[j].kind = 1 then acksOf (l.take j) ++ [l[j].write] else acksOf (l.take j) := by
 rw [List.take_succ_eq_append_getElem hj,acksOf_app]
 unfold acksOf
 by_cases h : l[j].kind = 1
 ·rw [if_pos h,List.filter_cons,if_pos (by simpa using h)]; rfl
 ·rw [if_neg h,List.filter_cons,if_neg (by simpa using h)]; simp
theorem acksOf_len (l : List Ev) : (acksOf l).length ≤ l.length := by
 unfold acksOf; rw [List.length_map]; exact List.length_filter_le _ _
theorem st_cell {d : D} (hd : d.Is St) {j : Nat} (hj : j < (d.to St).length) : d.HasCells j 0 [.int .i64,.int .i64,.int .i64,.slc,.int .i64] ∧ (d.cell j 3).Is Sec ∧ d.getInt j 0 = ((d.to St)[j]).kind ∧ (StD.mk (d.getInt j 0) ⟨d.getInt j 1,d.getInt j 2,d.cell j 3⟩ (d.getInt j 4)).st = (d.to St)[j] := by
 obtain ⟨r,h1,⟨k,v,s,x,n,rfl,hx⟩,h3⟩ := hd.row hj
 obtain ⟨a,b,c,rfl,_⟩ := hx.slc
 rw [h3]
 refine ⟨⟨⟨k,by simp [D.cellAt,h1]⟩,⟨v,by simp [D.cellAt,h1]⟩,⟨s,by simp [D.cellAt,h1]⟩,⟨a,b,c,by simp [D.cellAt,h1]⟩,⟨n,by simp [D.cellAt,h1]⟩,trivial⟩,?_,?_,?_⟩
 ·simpa [D.cell,D.cellAt,h1] using hx
 ·simp [D.getInt,D.cellAt,h1,Codec.dec]
 ·simp [StD.st,WtD.wt,D.getInt,D.cell,D.cellAt,h1,Codec.dec]
end Sx
namespace Sx
def spSizes0 (x : D) : SpecR := .scalar [x.Is Int] (.int .i64 (sizesErr (x.to Int)))
noncomputable def spNewI0 (x : D) : SpecR := .data [x.Is Int] fun ds=>.tup [.dat ((ds 0).like (imgOf (x.to Int))),.int .i64 (sizesErr (x.to Int))]
noncomputable def spNewH0 (x : D) : SpecR := .data [x.Is Int] fun ds=>.tup [hiSV ds (newH (x.to Int)).1,.int .i64 (newH (x.to Int)).2]
noncomputable def spNewG0 (x : D) : SpecR := .data [x.Is Int] fun ds=>.tup [grSV ds (newG (x.to Int)).1,.int .i64 (newG (x.to Int)).2]
end Sx
end
section
open Go Go.Proofs Sx
namespace Go.Proofs.Ytodhhmjilnfecaa
set_option maxRecDepth 100000
set_option maxHeartbeats 0
noncomputable def ctFw : Ctrs := [(71,ctrOf ((rdD.two (rdFn 61)).sp spIxN)),(93,ctrOf ((rdD.two (rdFn 63)).sp spIxS))]
section
variable (d e : D)
theorem few_in1 : exec Try.prog ctFw 300 (entry Try.prog 26 [.dat d,.dat e]) =
 Tree.br (decide ((↑(D.len e) : Int) ≤ 40))
 (.br (decide ((↑(D.len d) : Int) ≤ 8))
 (.need (D.Is Int d ∧ D.len d ≤ 1048576)
 (.br (!decide ((idxG (D.to Int d) fun n=>decide (n > 24)) ≥ 0))
 (.need (D.Is St e ∧ D.len e ≤ 1048576)
 (.ret (.bool !decide ((idxG (D.to St e) fun s=>decide (List.length (Wt.data (St.wt s)) > 30)) ≥ 0))))
 (.ret (.lb false))))
 (.ret (.lb false)))
 (.ret (.lb false)) := by kernel_rfl

end
end Go.Proofs.Ytodhhmjilnfecaa
end
section
open Go Go.Proofs Sx
namespace Go.Proofs.Ytodhhmjilnfecaa
set_option maxRecDepth 100000
set_option maxHeartbeats 0
theorem lawIxN : Law Try.prog 71 ((rdD.two (rdFn 61)).sp spIxN) := by
 refine law_in _ (by kernel_rfl) fun H w ⟨d,u⟩ hok hp=>?_
 obtain ⟨hd,hlen⟩ := hp _ (List.mem_singleton.2 rfl)
 simp only at hd hlen
 have hl := D.Is.length (α := Int) d
 apply exec_sound (noCtr _) 200
 rw [show (rdD.two (rdFn 61)).canon (d,u) = [.dat d,.fn 61 [] []] from rfl,ixn_in]
 refine runs_loop (fun j : Nat=>ixnL d j) (fun j=>j ≤ (d.to Int).length ∧ ((d.to Int).take j).findIdx? (fun n=>decide (n > 24)) = none) (fun j=>(d.to Int).length - j) (fun _=>rfl) ?_ 0 ⟨Nat.zero_le _,by simp⟩
 intro j ⟨hj,hpre⟩ ih
 apply exec_sound (noCtr _) 200
 rw [ixn_go]
 refine ⟨fun hc=>?_,fun hc=>ret_int ?_⟩
 ·have hc : j < (d.to Int).length := by have := of_decide_eq_true hc; omega
  obtain ⟨c1,c2,c3⟩ := int_at hd hc
  rw [c3]
  refine ⟨c1,c2,fun h=>ret_int ?_,fun h=>?_⟩
  ·exact (idxG_hit hc hpre h).symm
  ·have := ih (j + 1) ⟨hc,idxG_miss hc hpre h⟩ (by omega)
   rw [← wrap_succ hc (by omega)] at this
   exact this
 ·have : j = (d.to Int).length := by have := of_decide_eq_false hc; omega
  subst this
  exact (idxG_none hpre).symm
theorem lawIxS : Law Try.prog 93 ((rdD.two (rdFn 63)).sp spIxS) := by
 refine law_in _ (by kernel_rfl) fun H w ⟨d,u⟩ hok hp=>?_
 obtain ⟨hd,hlen⟩ := hp _ (List.mem_singleton.2 rfl)
 simp only at hd hlen
 have hl := D.Is.length (α := St) d
 apply exec_sound (noCtr _) 200
 rw [show (rdD.two (rdFn 63)).canon (d,u) = [.dat d,.fn 63 [] []] from rfl,ixs_in]
 refine runs_loop (fun j : Nat=>ixsL d j) (fun j=>j ≤ (d.to St).length ∧ ((d.to St).take j).findIdx? (fun s=>decide (s.wt.data.length > 30)) = none) (fun j=>(d.to St).length - j) (fun _=>rfl) ?_ 0 ⟨Nat.zero_le _,by simp⟩
 intro j ⟨hj,hpre⟩ ih
 apply exec_sound (noCtr _) 200
 rw [ixs_go]
 refine ⟨fun hc=>?_,fun hc=>ret_int ?_⟩
 ·have hc : j < (d.to St).length := by have := of_decide_eq_true hc; omega
  obtain ⟨c1,c2,_,c3⟩ := st_cell hd hc
  have e : decide (((D.cell d (Int.toNat (j : Int)) 3).len : Int) > 30) = decide (((d.to St)[j]).wt.data.length > 30) := by
   rw [← c3,decide_eq_decide,Int.toNat_natCast,D.Is.length (α := Sec)]
   show ((((d.cell j 3).to Sec).length : Int) > 30) ↔ ((d.cell j 3).to Sec).length > 30
   omega
  rw [e]
  refine ⟨⟨by omega,by omega,hd.size hc⟩,c1,fun h=>ret_int ?_,fun h=>?_⟩
  ·exact (idxG_hit hc hpre h).symm
  ·have := ih (j + 1) ⟨hc,idxG_miss hc hpre h⟩ (by omega)
   rw [← wrap_succ hc (by omega)] at this
   exact this
 ·have : j = (d.to St).length := by have := of_decide_eq_false hc; omega
  subst this
  exact (idxG_none hpre).symm
theorem ctFwOk : Ctrs.Ok Try.prog ctFw := by
 intro x hx
 simp only [ctFw,List.mem_cons,List.not_mem_nil,or_false] at hx
 rcases hx with rfl | rfl
 ·exact ctrOf_ok lawIxN
 ·exact ctrOf_ok lawIxS
theorem lawFewS : Law Try.prog 26 ((rdD.two rdD).sp spFewS) := by
 refine law_in _ (by kernel_rfl) fun H w ⟨d,e⟩ hok hp=>?_
 obtain ⟨hd,he⟩ := hp _ (List.mem_singleton.2 rfl)
 simp only at hd he
 have dl := D.Is.length (α := Int) d
 have el := D.Is.length (α := St) e
 apply exec_sound ctFwOk 300
 rw [show (rdD.two rdD).canon (d,e) = [.dat d,.dat e] from rfl,few_in1]
 have q1 : decide ((e.len : Int) ≤ 40) = decide ((e.to St).length ≤ 40) := by rw [el,decide_eq_decide]; omega
 have q2 : decide ((d.len : Int) ≤ 8) = decide ((d.to Int).length ≤ 8) := by rw [dl,decide_eq_decide]; omega
 have q3 := idxG_any (d.to Int) (fun n=>decide (n > 24))
 have q4 := idxG_any (e.to St) (fun s=>decide (s.wt.data.length > 30))
 show (Tree.br _ _ _).holds _ _ (RetS w H (.bool (decide ((e.to St).length ≤ 40) && (decide ((d.to Int).length ≤ 8) && (!((d.to Int).any fun n=>decide (n > 24)) && !((e.to St).any fun x=>decide (x.wt.data.length > 30)))))))
 rw [← q1,← q2,← q3,← q4]
 refine ⟨fun h1=>⟨fun h2=>⟨⟨hd,by have := of_decide_eq_true h2; omega⟩,fun h3=>⟨⟨he,by have := of_decide_eq_true h1; omega⟩,ret_bool ?_⟩,fun h3=>ret_lb ?_⟩,fun h2=>ret_lb ?_⟩,fun h1=>ret_lb ?_⟩
 ·rw [h1,h2,h3]; simp
 ·have h3 := h3; rw [h1,h2]; simp at h3 ⊢; intro h; omega
 ·rw [h1,h2]; rfl
 ·rw [h1]; rfl
theorem lawAcks : Law Try.prog 32 (rdHi.one.sp spAcks) := by
 refine law_in _ (by kernel_rfl) fun H w ⟨ha,hb,d⟩ hok hp=>?_
 obtain ⟨hd,hlen⟩ := hp _ (List.mem_singleton.2 rfl)
 simp only at hd hlen
 have dl := D.Is.length (α := Ev) d
 apply exec_sound (noCtr _) 200
 rw [show rdHi.one.canon ⟨ha,hb,d⟩ = [.agg [.dat ha,.dat hb,.dat d]] from rfl,ackd_in]
 refine vecIn_to 9 3 1 none 3 (ackL d (.slc none 1 []) 0) (by kernel_rfl) ?_
 refine runs_loop (fun s : D × Nat=>ackL d s.1 s.2) (fun s=>s.2 ≤ (d.to Ev).length ∧ s.1.Is Int ∧ s.1.sz = 1 ∧ s.1.to Int = acksOf ((d.to Ev).take s.2)) (fun s=>(d.to Ev).length - s.2) (fun _=>rfl) ?_ (_,0) ⟨Nat.zero_le _,is_nil _ _,rfl,rfl⟩
 rintro ⟨r,j⟩ ⟨hj,r1,r2,r3⟩ ih
 simp only at hj r1 r2 r3 ih ⊢
 have rl : r.len ≤ 1048576 := by
  rw [D.Is.length (α := Int),r3]
  have := acksOf_len ((d.to Ev).take j)
  rw [List.length_take] at this; omega
 apply exec_sound (noCtr _) 200
 rw [ackl_go]
 refine ⟨fun hc=>?_,fun hc=>?_⟩
 ·have hc : j < (d.to Ev).length := by have := of_decide_eq_true hc; omega
  obtain ⟨c1,c2,c3⟩ := ev_cell hd hc
  have wj : IntKind.i64.wrap ((j : Int) + 1) = ((j + 1 : Nat) : Int) := wrap_succ hc (by omega)
  have sn := acksOf_take hc
  rw [wj,Int.toNat_natCast j,c2,c3]
  refine ⟨⟨by omega,by omega,hd.size hc⟩,c1,fun hz hs=>⟨apq_need r2 rl,fun hs1=>?_⟩,fun hz=>?_⟩
  ·rw [if_pos (of_decide_eq_true hz)] at sn
   obtain ⟨i1,i2,i3⟩ := apq_is (a := D.hd (hs 0 0)) (b := D.hd (hs1 0 0)) (z := ((d.to Ev)[j]).write) r1 r3
   exact ih (_,j + 1) ⟨hc,i1,i2,i3.trans sn.symm⟩ (by simp only; omega)
  ·rw [if_neg (of_decide_eq_false hz)] at sn
   exact ih (r,j + 1) ⟨hc,r1,r2,r3.trans sn.symm⟩ (by simp only; omega)
 ·have hc := of_decide_eq_false hc
  have : j = (d.to Ev).length := by omega
  subst this
  rw [List.take_length] at r3
  have e := D.like_self r1 r3
  exact ret_D (fun _=>r) (fun E E'=>by simp only [e,SV.den]) (fun H' h=>by simp only [e]; exact h)
theorem ctRunOk : Ctrs.Ok Try.prog ctRun := by
 intro x hx
 rcases List.mem_cons.1 hx with rfl | hx
 ·exact ctrOf_ok lawFst
 ·exact ctLGOk _ hx
end Go.Proofs.Ytodhhmjilnfecaa
end
section
open Go Go.Proofs Sx
namespace Sx
theorem ret_run {P : Program} {w : World} {H : HV} {X L : SV} {g : Gr} {l : List Int} (h : StandsG X g) (hl : Stands Int L l) : (Tree.ret (.tup [X,L])).holds P ⟨w,H⟩ (RetD w H fun ds=>.tup [grSV ds g,.dat ((ds 5).like l)]) := by
 obtain ⟨ds,h1,h2⟩ := h.ex
 obtain ⟨d,k1,k2,k3,k4⟩ := hl
 refine ret_D (fun i=>if i = 5 then d else ds i) (fun E E'=>?_) (fun H' ho=>?_)
 ·simp only [SV.den,SV.denL,h1 E]; simp [grSV,SV.den,SV.denL,D.like_self k2 k3,k1]
 ·simp only [SV.Ok,SV.OkL] at ho ⊢
  have h3 := h2 H' ho.1
  simp only [grSV,SV.Ok,SV.OkL] at h3 ⊢
  simp [D.like_self k2 k3]
  exact ⟨⟨h3.1,h3.2.1,h3.2.2.1,h3.2.2.2.1,h3.2.2.2.2.1⟩,k4 _ ho.2.1,k2.slc⟩
theorem stands_likeG {ds : Nat → D} {g : Gr} : StandsG (.agg [.dat ((ds 0).like g.hist.sizes),.dat ((ds 1).like g.hist.writes),.dat ((ds 2).like g.hist.events),.dat ((ds 3).like g.waiting),.dat ((ds 4).like g.held),.bool g.frozen]) g :=
 stands_gr stands_like stands_like stands_like stands_like stands_like (fun _=>rfl) rfl
theorem stands_selfG {ha hb hc wt hd : D} {fz : Bool} (hx : GrD.Right ⟨⟨ha,hb,hc⟩,wt,hd,fz⟩) : StandsG (.agg [.dat ha,.dat hb,.dat hc,.dat wt,.dat hd,.bool fz]) (GrD.gr ⟨⟨ha,hb,hc⟩,wt,hd,fz⟩) :=
 stands_gr (stands_dat hx.1.1 rfl) (stands_dat hx.1.2.1 rfl) (stands_dat hx.1.2.2.1 rfl) (stands_dat hx.2.1 rfl) (stands_dat hx.2.2.1 rfl) (fun _=>rfl) rfl
end Sx
namespace Go.Proofs.Ytodhhmjilnfecaa
set_option maxRecDepth 100000
set_option maxHeartbeats 0
theorem lawRun : Law Try.prog 27 ((rdGr.two rdSt).sp spRun) := by
 refine law_in _ (by kernel_rfl) fun H w ⟨⟨⟨ha,hb,hc⟩,wt,hd,fz⟩,⟨k,⟨v,s,d⟩,n⟩⟩ hok hp=>?_
 obtain ⟨hx,hE,hWl,hW⟩ := hp _ (List.mem_singleton.2 rfl)
 have hx : GrD.Right ⟨⟨ha,hb,hc⟩,wt,hd,fz⟩ := hx
 have hE : hc.len ≤ 900000 := hE
 have hWl : hb.len ≤ 900000 := hWl
 have hW : WtD.Ok ⟨v,s,d⟩ := hW
 obtain ⟨hR,rw',rh,lw,lh⟩ := id hx
 simp only at hR rw' rh lw lh
 have wl := D.Is.length (α := Int) wt
 have bl := D.Is.length (α := Wt) hb
 apply exec_sound ctRunOk 400
 rw [show (rdGr.two rdSt).canon (⟨⟨ha,hb,hc⟩,wt,hd,fz⟩,⟨k,⟨v,s,d⟩,n⟩) = [.agg [.dat ha,.dat hb,.dat hc,.dat wt,.dat hd,.bool fz],.agg [.int .i64 k,.int .i64 v,.int .i64 s,.dat d,.int .i64 n]] from rfl,run_in]
 have hself := stands_selfG hx
 have g5 : (GrD.gr ⟨⟨ha,hb,hc⟩,wt,hd,fz⟩).hist.writes.length = hb.len := bl.symm
 have g6 : (GrD.gr ⟨⟨ha,hb,hc⟩,wt,hd,fz⟩).waiting = wt.to Int := rfl
 generalize hg : GrD.gr ⟨⟨ha,hb,hc⟩,wt,hd,fz⟩ = g at hself g5 g6 ⊢
 show Tree.holds _ _ (RetD w H fun ds=>.tup [grSV ds (runG g ⟨k,WtD.wt ⟨v,s,d⟩,n⟩).1,.dat ((ds 5).like (runG g ⟨k,WtD.wt ⟨v,s,d⟩,n⟩).2)]) _
 generalize hr : runG g ⟨k,WtD.wt ⟨v,s,d⟩,n⟩ = r
 unfold runG at hr
 simp only at hr
 refine ⟨fun k0=>⟨⟨hx,by omega,hW⟩,fun hs=>⟨fun he=>?_,fun he=>?_⟩⟩,fun k0=>⟨fun k1=>⟨fun h0=>?_,fun h0 hs=>?_⟩,fun k1=>⟨fun k2=>⟨hx,fun hs=>⟨fun he=>?_,fun he=>?_⟩⟩,fun k2=>⟨fun k3=>⟨hx,fun hs=>⟨fun he=>?_,fun he=>?_⟩⟩,fun k3 hs=>?_⟩⟩⟩⟩
 ·have k0 := of_decide_eq_true k0
  rw [if_pos k0,if_pos (by simpa using he)] at hr
  rw [← hr]; exact ret_run hself stands_nils
 ·have k0 := of_decide_eq_true k0
  rw [if_pos k0,if_neg (by simpa using he)] at hr
  rw [← hr]; exact ret_run (stands_likeG (ds := hs 0)) stands_nils
 ·have k0 := of_decide_eq_false k0
  have k1 := of_decide_eq_true k1
  have h0 := of_decide_eq_true h0
  rw [if_neg k0,if_pos k1,if_pos (by rw [g6]; omega)] at hr
  rw [← hr]; exact ret_run hself stands_nils
 ·have k0 := of_decide_eq_false k0
  have k1 := of_decide_eq_true k1
  have h0 := of_decide_eq_false h0
  have hpos : 0 < wt.len := by omega
  have hpk := pick_int (n := n) hpos
  have hlt := pick_lt (n := n) hpos
  have hpl : pickI n wt.len < (wt.to Int).length := by omega
  obtain ⟨c1,c2,c3⟩ := int_at rw' (j := pickI n wt.len) hpl
  have c4 : (wt.to Int)[pickI n wt.len] = g.waiting.getD (pickI n g.waiting.length) 0 := by
   rw [g6,show pickI n (wt.to Int).length = pickI n wt.len by rw [wl]]
   exact (getD_lt hpl).symm
  rw [if_neg k0,if_pos k1,if_neg (by rw [g6]; omega)] at hr
  rw [hpk,c3,c4]
  refine ⟨h0,c1,c2,hx,fun he=>?_,fun he=>?_⟩
  ·rw [if_pos (by simpa using he)] at hr
   rw [← hr]; exact ret_run hself stands_nils
  ·rw [if_neg (by simpa using he)] at hr
   rw [← hr]; exact ret_run (stands_likeG (ds := hs 12)) stands_like
 ·have k0 := of_decide_eq_false k0
  have k1 := of_decide_eq_false k1
  have k2 := of_decide_eq_true k2
  rw [if_neg k0,if_neg k1,if_pos k2,if_pos (by simpa using he)] at hr
  rw [← hr]; exact ret_run hself stands_nils
 ·have k0 := of_decide_eq_false k0
  have k1 := of_decide_eq_false k1
  have k2 := of_decide_eq_true k2
  rw [if_neg k0,if_neg k1,if_pos k2,if_neg (by simpa using he)] at hr
  rw [← hr]; exact ret_run (stands_likeG (ds := hs 0)) stands_nils
 ·have k0 := of_decide_eq_false k0
  have k1 := of_decide_eq_false k1
  have k2 := of_decide_eq_false k2
  have k3 := of_decide_eq_true k3
  rw [if_neg k0,if_neg k1,if_neg k2,if_pos k3,if_pos (by simpa using he)] at hr
  rw [← hr]; exact ret_run hself stands_nils
 ·have k0 := of_decide_eq_false k0
  have k1 := of_decide_eq_false k1
  have k2 := of_decide_eq_false k2
  have k3 := of_decide_eq_true k3
  rw [if_neg k0,if_neg k1,if_neg k2,if_pos k3,if_neg (by simpa using he)] at hr
  rw [← hr]; exact ret_run (stands_likeG (ds := hs 0)) stands_like
 ·have k0 := of_decide_eq_false k0
  have k1 := of_decide_eq_false k1
  have k2 := of_decide_eq_false k2
  have k3 := of_decide_eq_false k3
  have hw1 : IntKind.i64.wrap ((hb.len : Int) + 1) = ((hb.len + 1 : Nat) : Int) := by rw [wrap64 (by omega) (by omega)]; omega
  have hpk := pick_int (n := n) (m := hb.len + 1) (by omega)
  have hlt := pick_lt (n := n) (m := hb.len + 1) (by omega)
  rw [if_neg k0,if_neg k1,if_neg k2,if_neg k3,g5] at hr
  rw [hw1,hpk]
  show Tree.holds _ _ _ (Tree.need _ _)
  rw [D.like_to]
  refine ⟨by omega,by omega,⟨hx,D.like_is _ _,by rw [llen,firstN_len]; omega⟩,fun he=>?_,fun he=>?_⟩
  ·rw [if_pos (by simpa using he)] at hr
   rw [← hr]; exact ret_run hself stands_nils
  ·rw [if_neg (by simpa using he)] at hr
   rw [← hr]; exact ret_run (stands_likeG (ds := hs 11)) stands_like
end Go.Proofs.Ytodhhmjilnfecaa
end
section
open Go Go.Proofs Sx
namespace Go.Proofs.Ytodhhmjilnfecaa
set_option maxRecDepth 100000
set_option maxHeartbeats 0
noncomputable def ctS0 : Ctrs := [(97,ctrOf (rdD.one.sp spSizes0)),(98,ctrOf ((rdD.two (rdFn 99)).sp spMapN))]
noncomputable def ctH0 : Ctrs := [(72,ctrOf (rdD.one.sp spNewI0)),(78,oCtr (spClone Int 3))]
noncomputable def ctG0 : Ctrs := [(60,ctrOf (rdD.one.sp spNewH0))]
section
variable (d : D)
theorem new0_in : exec Try.prog ctS0 200 (entry Try.prog 72 [.dat d]) =
 Tree.need (D.Is Int d)
 (.br (sizesErr (D.to Int d) != 0) (.ret (SV.tup [.nils,.int .i64 (sizesErr (D.to Int d))]))
 (.need (D.Is Int d ∧ D.len d ≤ 8 ∧ ∀ (n : Int),List.Mem n (D.to Int d) → 0 ≤ n ∧ n ≤ 4096)
 (.all fun hs =>
 .ret (SV.tup [.dat (D.like (hs 0 0) (List.map volOf (D.to Int d))),.int .i64 0])))) := by kernel_rfl

theorem nw0_in : exec Try.prog ctH0 300 (entry Try.prog 60 [.dat d]) =
 Tree.need (D.Is Int d)
 (.all fun hs =>
 .br (sizesErr (D.to Int d) != 0)
 (.ret (SV.tup [.agg [.nils,.nils,.nils],.int .i64 (sizesErr (D.to Int d))]))
 (.need (D.Is Int d ∧ D.len d ≤ 1048576)
 (.all fun hs =>
 .ret
 (SV.tup [.agg [.dat (D.slc (D.hd (hs 0 0)) 1 (D.rows d)),.nils,.nils],.int .i64 0])))) := by kernel_rfl

theorem nwg0_in : exec Try.prog ctG0 200 (entry Try.prog 25 [.dat d]) =
 Tree.need (D.Is Int d)
 (.all fun hs =>
 .br (Prod.snd (newH (D.to Int d)) != 0)
 (.ret
 (SV.tup
 [.agg [.nils,.nils,.nils,.nils,.nils,.lb false],
 .int .i64 (Prod.snd (newH (D.to Int d)))]))
 (.ret
 (SV.tup
 [.agg
 [.dat (D.like (hs 0 0) (Hist.sizes (Prod.fst (newH (D.to Int d))))),
 .dat (D.like (hs 0 1) (Hist.writes (Prod.fst (newH (D.to Int d))))),
 .dat (D.like (hs 0 2) (Hist.events (Prod.fst (newH (D.to Int d))))),.nils,.nils,.lb false],
 .int .i64 0]))) := by kernel_rfl

end
end Go.Proofs.Ytodhhmjilnfecaa
end
section
open Go Go.Proofs Sx
namespace Go.Proofs.Ytodhhmjilnfecaa
set_option maxRecDepth 100000
theorem lawSizes0 : Law Try.prog 97 (rdD.one.sp spSizes0) := by
 refine law_in _ (by kernel_rfl) fun H w d hok hp=>?_
 have hd : d.Is Int := hp _ (List.mem_singleton.2 rfl)
 have hl := D.Is.length (α := Int) d
 apply exec_sound ctAnyOk 200
 rw [show rdD.one.canon d = [.dat d] from rfl,cs_in]
 refine ⟨fun hc=>ret_int ?_,fun hc=>⟨fun hc2=>ret_int ?_,fun hc2=>⟨⟨hd,by have := of_decide_eq_false hc2; omega⟩,fun h=>ret_int ?_,fun h=>ret_int ?_⟩⟩⟩
 ·have := of_decide_eq_true hc; unfold sizesErr; rw [if_pos (by omega)]
 ·have := of_decide_eq_true hc2; unfold sizesErr; rw [if_pos (by omega)]
 ·have := of_decide_eq_false hc; have := of_decide_eq_false hc2; unfold sizesErr; rw [if_neg (by omega),if_pos h]
 ·have := of_decide_eq_false hc; have := of_decide_eq_false hc2; unfold sizesErr; rw [if_neg (by omega),if_neg (by simp [h])]
theorem ctS0Ok : Ctrs.Ok Try.prog ctS0 := by
 intro x hx
 rcases List.mem_cons.1 hx with rfl | hx
 ·exact ctrOf_ok lawSizes0
 ·rw [List.mem_singleton.1 hx]; exact ctrOf_ok lawMapN
theorem lawNewI0 : Law Try.prog 72 (rdD.one.sp spNewI0) := by
 refine law_in _ (by kernel_rfl) fun H w d hok hp=>?_
 have hd : d.Is Int := hp _ (List.mem_singleton.2 rfl)
 have hl := D.Is.length (α := Int) d
 apply exec_sound ctS0Ok 200
 rw [show rdD.one.canon d = [.dat d] from rfl,new0_in]
 refine ⟨hd,fun h=>?_,fun h=>?_⟩
 ·refine ret_oneI stands_nils ?_ rfl
  unfold imgOf
  rw [if_pos (by simpa using h)]
 ·have h0 : sizesErr (d.to Int) = 0 := by simpa using h
  obtain ⟨s1,s2,s3⟩ := sizesErr_ok h0
  refine ⟨⟨hd,by omega,fun n hn=>by have := s3 n hn; omega⟩,fun hs=>ret_oneI stands_like ?_ h0.symm⟩
  unfold imgOf
  rw [if_neg (by simp [h0])]
theorem ctH0Ok : Ctrs.Ok Try.prog ctH0 := by
 intro x hx
 rcases List.mem_cons.1 hx with rfl | hx
 ·exact ctrOf_ok lawNewI0
 ·rw [List.mem_singleton.1 hx]; exact oCtr_ok lawCl1
theorem lawNewH0 : Law Try.prog 60 (rdD.one.sp spNewH0) := by
 refine law_in _ (by kernel_rfl) fun H w d hok hp=>?_
 have hd : d.Is Int := hp _ (List.mem_singleton.2 rfl)
 have hl := D.Is.length (α := Int) d
 apply exec_sound ctH0Ok 300
 rw [show rdD.one.canon d = [.dat d] from rfl,nw0_in]
 refine ⟨hd,fun hs=>⟨fun h=>?_,fun h=>?_⟩⟩
 ·have h : sizesErr (d.to Int) ≠ 0 := by simpa using h
  exact ret_hiI (s := []) (ws := []) (es := []) stands_nils stands_nils stands_nils (by unfold newH; rw [if_pos h]; rfl) (by unfold newH; rw [if_pos h])
 ·have h : ¬(sizesErr (d.to Int) ≠ 0) := by simpa using h
  have h0 : sizesErr (d.to Int) = 0 := by simpa using h
  have := (sizes_len h0).1
  refine ⟨⟨hd,by omega⟩,fun hs1=>?_⟩
  obtain ⟨x1,x2⟩ := slc_same hd (D.hd (hs1 0 0)) (s := 1) rfl
  exact ret_hiI (stands_dat x1 x2) stands_nils stands_nils (by unfold newH; rw [if_neg h]) (by unfold newH; rw [if_neg h])
theorem ctG0Ok : Ctrs.Ok Try.prog ctG0 := by
 intro x hx; rw [List.mem_singleton.1 hx]; exact ctrOf_ok lawNewH0
theorem lawNewG0 : Law Try.prog 25 (rdD.one.sp spNewG0) := by
 refine law_in _ (by kernel_rfl) fun H w d hok hp=>?_
 have hd : d.Is Int := hp _ (List.mem_singleton.2 rfl)
 apply exec_sound ctG0Ok 200
 rw [show rdD.one.canon d = [.dat d] from rfl,nwg0_in]
 refine ⟨hd,fun hs=>⟨fun he=>?_,fun he=>?_⟩⟩
 ·have he := newG_err (s := d.to Int) (by simpa using he)
  refine ret_grI ?_ ?_
  ·rw [he]; exact stands_zG fun _=>rfl
  ·rw [he]
 ·have he := newG_ok (s := d.to Int) (by simpa using he)
  refine ret_grI ?_ ?_
  ·rw [he]; exact stands_gr stands_like stands_like stands_like stands_nils stands_nils (fun _=>rfl) rfl
  ·rw [he]
end Go.Proofs.Ytodhhmjilnfecaa
end
section
open Go Go.Proofs Sx
namespace Go.Proofs.Ytodhhmjilnfecaa
noncomputable def ctLS : Ctrs := (25,ctrOf (rdD.one.sp spNewG0)) :: (27,ctrOf ((rdGr.two rdSt).sp spRun)) :: (26,ctrOf ((rdD.two rdD).sp spFewS)) :: (32,ctrOf (rdHi.one.sp spAcks)) :: (34,ctrOf (rdInt.one.sp spFst)) ::
 (33,ctrOf ((rdHi.two rdD).sp spCls)) :: (28,ctrOf ((rdD.two rdInt).sp spHasC)) :: ctLG
theorem ctLSOk : Ctrs.Ok Try.prog ctLS := by
 intro x hx
 rcases List.mem_cons.1 hx with rfl | hx
 ·exact ctrOf_ok lawNewG0
 rcases List.mem_cons.1 hx with rfl | hx
 ·exact ctrOf_ok lawRun
 rcases List.mem_cons.1 hx with rfl | hx
 ·exact ctrOf_ok lawFewS
 rcases List.mem_cons.1 hx with rfl | hx
 ·exact ctrOf_ok lawAcks
 rcases List.mem_cons.1 hx with rfl | hx
 ·exact ctrOf_ok lawFst
 rcases List.mem_cons.1 hx with rfl | hx
 ·exact ctrOf_ok lawCls
 rcases List.mem_cons.1 hx with rfl | hx
 ·exact ctrOf_ok lawCon
 ·exact ctLGOk x hx
end Go.Proofs.Ytodhhmjilnfecaa
end
section
open Go Go.Proofs Sx
namespace Go.Proofs.Ytodhhmjilnfecaa
set_option maxRecDepth 100000
set_option maxHeartbeats 0
section
variable (d e l : D) (k : Int)



end
end Go.Proofs.Ytodhhmjilnfecaa
end
section
open Go Go.Proofs Sx
namespace Go.Proofs.Ytodhhmjilnfecaa
set_option maxRecDepth 100000
set_option maxHeartbeats 0
noncomputable def grM (a b c x y : D) (z : Bool) : Mem := [(0,OBlk.cells 28 [SV.dat a,SV.dat b,SV.dat c,SV.dat x,SV.dat y,SV.bool z])]
section
variable (e l a b c x y : D) (z : Bool) (j : Int)



end
end Go.Proofs.Ytodhhmjilnfecaa
end
section
open Go Go.Proofs Sx
namespace Sx
noncomputable def likeGD (ds : Nat → D) (g : Gr) : GrD := ⟨⟨(ds 0).like g.hist.sizes,(ds 1).like g.hist.writes,(ds 2).like g.hist.events⟩,(ds 3).like g.waiting,(ds 4).like g.held,g.frozen⟩
theorem likeGD_gr (ds : Nat → D) (g : Gr) : (likeGD ds g).gr = g := likeG_gr
structure GrV (x : GrD) : Prop where
 r : x.Right
 v : openErr x.gr = 0
 e : x.h.e.len ≤ 8192
 w : x.h.w.len ≤ 8192
 wt : x.wt.len ≤ 8192
 hd : x.hd.len ≤ 8192
theorem likeGD_v {ds : Nat → D} {g : Gr} (h : openErr g = 0) : GrV (likeGD ds g) := by
 have b := valid_b h
 exact ⟨likeG_right b,by rw [likeGD_gr]; exact h,by simp only [likeGD,llen]; exact b.e,by simp only [likeGD,llen]; exact b.w,by simp only [likeGD,llen]; exact b.wt,by simp only [likeGD,llen]; exact b.hd⟩
end Sx
namespace Go.Proofs.Ytodhhmjilnfecaa
set_option maxRecDepth 100000
set_option maxHeartbeats 0
theorem acc_step {l : D} {s : GrD} {j : Nat} (hl : l.Is St) (hf : fewS [] (l.to St) = true) (hj : j < (l.to St).length) : WtD.Ok (WtD.mk (D.getInt l (Int.toNat (j : Int)) 1) (D.getInt l (Int.toNat (j : Int)) 2) (D.cell l (Int.toNat (j : Int)) 3)) := by
 obtain ⟨c1,c2,_,c3⟩ := st_cell hl hj
 refine ⟨c2,?_⟩
 simp only [fewS,Bool.and_eq_true,Bool.not_eq_true',decide_eq_true_eq] at hf
 have := List.any_eq_false.1 hf.2.2.2 _ (List.getElem_mem hj)
 rw [← c3] at this
 have h2 : ((D.cell l j 3).to Sec).length ≤ 30 := by simpa [StD.st,WtD.wt] using this
 show (D.cell l j 3).len ≤ 1048576
 rw [D.Is.length (α := Sec)]; omega
theorem few_tail {s : List Int} {l : List St} (h : fewS s l = true) : fewS [] l = true ∧ l.length ≤ 40 := by
 simp only [fewS,Bool.and_eq_true,Bool.not_eq_true',decide_eq_true_eq] at h ⊢
 exact ⟨⟨h.1,by simp,rfl,h.2.2.2⟩,h.1⟩
end Go.Proofs.Ytodhhmjilnfecaa
end
section
namespace Sx
open Go RowKit
inductive MidK where
 | copy
 | append
 | store
 | build
deriving DecidableEq
def opMid (o : Op) (k : MidK) : Bool :=
 match k with
 | .copy=>match o with | .call cl=>(match cl.callee with | .builtin .copy=>true | _=>false) | _=>false
 | .append=>match o with | .call cl=>(match cl.callee with | .builtin .append=>true | _=>false) | _=>false
 | .store=>match o with | .store ..=>true | _=>false
 | .build=>match o with | .buildSlice ..=>true | _=>false
def restsMid (M : List (FuncId × MidK)) (c : Conf) : Bool :=
 match c.top.ri with
 | some (ops,i :: _)=>match ops[i]? with
  | some o=>M.any fun x=>x.1 == c.top.fn && opMid o.op x.2
  | none=>false
 | _=>false
noncomputable def execM (P : Program) (cs : Ctrs) (S : List (FuncId × Nat)) (M : List (FuncId × MidK)) (n : Nat) : Conf → Tree :=
 Nat.rec (motive := fun _=>Conf → Tree) (fun _=>.stuck) (fun _ ih c=>match restsMid M c with
  | true=>leafR c
  | false=>match restsAt S c with
   | true=>restC P c
   | false=>stepC P cs (fun _=>false) ih c) n
noncomputable def goM (P : Program) (cs : Ctrs) (S : List (FuncId × Nat)) (M : List (FuncId × MidK)) (n : Nat) (c : Conf) : Tree := stepC P cs (fun _=>false) (execM P cs S M n) c
section
variable {P : Program} {C : Ctx} {R : Value → World → Prop} {cs : Ctrs}
theorem execM_sound (hcs : cs.Ok P) (S : List (FuncId × Nat)) (M : List (FuncId × MidK)) : ∀ (n : Nat) (c : Conf),(execM P cs S M n c).holds P C R → Runs P C c R
 | 0,_,h=>h.elim
 | n + 1,c,h=>by
  have e : execM P cs S M (n + 1) c = match restsMid M c with
   | true=>leafR c
   | false=>match restsAt S c with
    | true=>restC P c
    | false=>stepC P cs (fun _=>false) (execM P cs S M n) c := rfl
  rw [e] at h
  cases hr : restsMid M c with
  | true=>rw [hr,leafR_eq] at h; exact h
  | false =>
   rw [hr] at h
   simp only at h
   cases hs : restsAt S c with
   | true=>rw [hs] at h; exact fgtR_sound (headR_sound h)
   | false=>rw [hs] at h; exact step_sound (U := fun _=>false) hcs (fun c h=>execM_sound hcs S M n c h) c h
theorem goM_sound (hcs : cs.Ok P) (S : List (FuncId × Nat)) (M : List (FuncId × MidK)) (n : Nat) (c : Conf) (h : (goM P cs S M n c).holds P C R) : Runs P C c R :=
 step_sound (U := fun _=>false) hcs (fun c h=>execM_sound hcs S M n c h) c h
end
end Sx
end
section
namespace Sx
open Go RowKit
section
variable {P : Program}
def At (P : Program) (c : Conf) (H : HV) (w : World) (R : Value → World → Prop) : Prop :=
 ∀ E,c.Ok H → InMem H w → StkRun P ctxPlain (c.top.den E) (c.rest.map (SFrm.den E)) w R
theorem at_of_runs {c : Conf} {H : HV} {w : World} {R : Value → World → Prop} (hm : c.mem = []) (h : Runs P ⟨w,H⟩ c R) : At P c H w R :=
 fun E ok hin=>h E H w (by rw [hm]; exact good_start hin E) ok
theorem After.trans {w w1 w2 : World} {H H1 H2 : HV} (a : After w H w1 H1) (b : After w1 H1 w2 H2) : After w H w2 H2 :=
 ⟨a.below.trans (b.below.mono a.below.size),a.le.trans b.le,fun x o v h=>by
  rcases b.fresh x o v h with h | h
  ·exact a.fresh x o v h
  ·exact .inr (Nat.le_trans a.below.size h),b.cell⟩
def callAt (ops : Array Oper) (i : Nat) : Option (Builtin × List Operand × List TypeId × Option Tmp) :=
 match ops[i]? with
 | some ⟨dst,.call ⟨.builtin b,args,tys⟩,_,_,_,none⟩=>some (b,args.toList,tys.toList,dst)
 | _=>none
def storeAt (ops : Array Oper) (i : Nat) : Option (TypeId × Operand × Operand × Option Tmp) :=
 match ops[i]? with
 | some ⟨dst,.store t a x,_,_,_,none⟩=>some (t,a,x,dst)
 | _=>none
theorem wanted_none {o : Oper} (h : o.guard = none) (y : Nat → Option Bool) : Region.wanted o y = true := by unfold Region.wanted; rw [h]
theorem stk_builtin {f : FuncId} {ops : Array Oper} {i : Nat} {l : List Nat} {aw dst : Option Tmp} {k : List Item} {tmps : List SV} {rest : List SFrm} {b : Builtin} {args : List Operand} {tys : List TypeId} {E E' : Env} {w w' : World} {R : Value → World → Prop} {u : Value}
  (ho : callAt ops i = some (b,args,tys,dst))
  (hr : ∀ ty,(builtin b tys.toArray ty #[] (args.map fun x=>(evS tmps x).den E).toArray).run P w = .ok (.value u) w')
  (hcst : ∀ (ty : TypeId) (c : Array Bool) (xs : Array Value),builtin b tys.toArray ty c xs = builtin b tys.toArray ty #[] xs)
  (h : StkRun P ctxPlain ⟨f,some (ops,l),aw,k,(⟨(SV.denL E tmps).toArray,[]⟩ : Act).put dst u,none⟩ (rest.map (SFrm.den E')) w' R) :
  StkRun P ctxPlain (SFrm.den E ⟨f,some (ops,i :: l),aw,k,tmps⟩) (rest.map (SFrm.den E')) w R := by
 unfold callAt at ho
 split at ho
 ·rename_i dst' b' args' tys' ty pos after hops
  cases ho
  have hro : RunsTo P ⟨(SV.denL E tmps).toArray,[]⟩ ⟨dst,.call ⟨.builtin b,args',tys'⟩,ty,pos,after,none⟩ w u w' := by
   left
   have := hr ty
   simp only [Array.toArray_toList] at this
   have ev : args'.toList.map (fun x=>(evS tmps x).den E) = (args'.map (Act.eval ⟨(SV.denL E tmps).toArray,[]⟩)).toList := by
    rw [Array.toList_map]
    exact List.map_congr_left fun x _=>(den_evS E tmps [] x).symm
   rw [ev,Array.toArray_toList] at this
   simp only [execOp,resolve,invoke,Sem.run_bind,Sem.run_pure,Result.andThen_ok]
   rw [← Array.toArray_toList (xs := tys'),hcst,Array.toArray_toList]
   exact this
  cases rest with
  | nil =>
   refine frm_op (a := ⟨(SV.denL E tmps).toArray,[]⟩) (ro := none) hops (wanted_none rfl _) hro ?_
   cases dst <;> exact h
  | cons g r=>exact frm_op hops (wanted_none rfl _) hro h
 ·cases ho
theorem run_copy_sz (w : World) (dT sT ty elem : TypeId) (g o dLen dCap : Nat) (a : Addr) (sLen sCap s : Nat) (cur : Array Value) (t : TypeId) (cs : List Value)
  (hu : P.underlying dT = some (.slice elem)) (hs : (P.info? elem).map (·.size) = some s)
  (hg : w.heap[g]? = some (.cells cur t (0,0))) (hn : cs.length = Nat.min sLen dLen * s)
  (hsrc : ∀ j v,cs[j]? = some v → w.cell? (a.add j) = some v) (hfit : o + cs.length ≤ cur.size) (h1 : ∀ v ∈ cs,v.oneCell' = true) :
  (Builtin.copy_ #[dT,sT] ty #[.slice (some ⟨g,o,none⟩) dLen dCap,.slice (some a) sLen sCap]).run P w =
   .ok (goInt (Nat.min sLen dLen)) (w.setRow g (cur.toList.take o ++ cs ++ cur.toList.drop (o + cs.length)).toArray) := by
 have hl := run_loadCells_list (P := P) w a cs hsrc
 have hst := run_storeCells_at P g o t cs 0 cur w hg (by simpa using hfit) h1
 cases hq : P.info? elem with
 | none=>simp [hq] at hs
 | some i =>
  have hi : i.size = s := by simpa [hq] using hs
  simp [Builtin.copy_,run_underlying hu,Builtin.lenOf,Builtin.firstCells,Go.sizeOf,typeInfo,hq,hi,← hn,hl,hst]
end
theorem prefix_of {F L : List Value} (h : ∀ (x : Nat) (v : Value),F[x]? = some v → L[x]? = some v) : L = F ++ L.drop F.length := by
 apply List.ext_getElem?
 intro x
 by_cases hx : x < F.length
 ·rw [List.getElem?_append_left hx,List.getElem?_eq_getElem hx]
  exact h x _ (List.getElem?_eq_getElem hx)
 ·rw [List.getElem?_append_right (by omega),List.getElem?_drop]
  congr 1; omega
def blk (o : D) (v : Nat) : Nat := (o.cell v 0).addr.block
structure ImgW (n : Nat) (H : HV) (w : World) (o : D) : Prop where
 is : o.Is Vol
 sz : o.sz = 1
 ok : o.Ok H
 ne : ∀ v,v < o.len → (o.cell v 0).rows ≠ []
 hd : ∀ v,v < o.len → ∃ c,(o.cell v 0).hd = some (⟨blk o v,0,none⟩,c)
 low : ∀ v,v < o.len → n ≤ blk o v
 dis : ∀ v v',v < o.len → v' < o.len → blk o v = blk o v' → v = v'
 out : ∀ v,v < o.len → o.addr.block ≠ blk o v
 live : ∀ v,v < o.len → ∃ cur t,w.heap[blk o v]? = some (.cells cur t (0,0))
theorem vol_row {o : D} (h : o.Is Vol) {v : Nat} (hv : v < o.len) : o.rows[v]? = some [o.cell v 0] ∧ (o.cell v 0).Is Sec ∧ (o.to Vol)[v]? = some ⟨(o.cell v 0).to Sec⟩ := by
 have hv' : v < (o.to Vol).length := by rw [← D.Is.length (α := Vol)]; exact hv
 obtain ⟨r,h1,⟨d,rfl,hd⟩,h3⟩ := h.row hv'
 have e : o.cell v 0 = d := by simp [D.cell,D.cellAt,h1]
 rw [e]
 exact ⟨h1,hd,by rw [List.getElem?_eq_getElem hv',h3]; rfl⟩
def D.putSec (o : D) (v s : Nat) (rs : List (List D)) : D := .slc o.hd 1 (o.rows.set v [.slc (o.cell v 0).hd 8 ((o.cell v 0).rows.take s ++ rs ++ (o.cell v 0).rows.drop (s + rs.length))])
section
variable {n : Nat} {H : HV} {w : World} {o : D} (h : ImgW n H w o) {v s : Nat} {rs : List (List D)} (hv : v < o.len) (hrs : ∀ r,r ∈ rs → Codec.ok Sec r) (hs : s + rs.length ≤ (o.cell v 0).len)
include h hv hrs hs
theorem put_cell {v' : Nat} (hv' : v' < o.len) : (o.putSec v s rs).cell v' 0 = if v' = v then .slc (o.cell v 0).hd 8 ((o.cell v 0).rows.take s ++ rs ++ (o.cell v 0).rows.drop (s + rs.length)) else o.cell v' 0 := by
 have hl : v' < o.rows.length := hv'
 have e0 : ∀ (a : Hd) (z : Nat) (rows : List (List D)),(D.slc a z rows).cell v' 0 = ((rows[v']?).bind (·[0]?)).getD (.slc none 0 []) := fun _ _ _=>rfl
 unfold D.putSec
 rw [e0]
 by_cases e : v' = v
 ·subst e
  rw [if_pos rfl,List.getElem?_set_self hl]; rfl
 ·rw [if_neg e,List.getElem?_set_ne (Ne.symm e)]; rfl
theorem put_blk {v' : Nat} (hv' : v' < o.len) : blk (o.putSec v s rs) v' = blk o v' := by
 unfold blk
 rw [put_cell h hv hrs hs hv']
 split
 ·rename_i e; subst e; rfl
 ·rfl
theorem put_len : (o.putSec v s rs).len = o.len := by simp [D.putSec,D.len,D.rows]
theorem put_rows_ok : ∀ r,r ∈ (o.cell v 0).rows.take s ++ rs ++ (o.cell v 0).rows.drop (s + rs.length) → Codec.ok Sec r := by
 have hi := (rows_of (vol_row h.is hv).2.1).1
 intro r hr
 rcases List.mem_append.1 hr with hr | hr
 ·rcases List.mem_append.1 hr with hr | hr
  ·exact hi r (List.mem_of_mem_take hr)
  ·exact hrs r hr
 ·exact hi r (List.mem_of_mem_drop hr)
theorem put_rows_len : ((o.cell v 0).rows.take s ++ rs ++ (o.cell v 0).rows.drop (s + rs.length)).length = (o.cell v 0).rows.length := by
 have : s + rs.length ≤ (o.cell v 0).rows.length := hs
 simp only [List.length_append,List.length_take,List.length_drop]; omega
theorem put_to : (o.putSec v s rs).to Vol = (o.to Vol).set v ⟨((o.cell v 0).to Sec).take s ++ rs.map Codec.dec ++ ((o.cell v 0).to Sec).drop (s + rs.length)⟩ := by
 unfold D.putSec
 simp only [D.to,D.rows,List.map_set]
 congr 1
 show (⟨(D.slc (o.cell v 0).hd 8 _).to Sec⟩ : Vol) = _
 simp only [D.to,D.rows,List.map_append,List.map_take,List.map_drop]
theorem put_val : (o.putSec v s rs).val = o.val := by
 obtain ⟨a,b,c,rfl,_⟩ := h.is
 simp [D.putSec,D.val,D.hd,D.rows]
theorem put_is : (o.putSec v s rs).Is Vol := by
 refine is_rows rfl fun r hr=>?_
 rcases List.mem_or_eq_of_mem_set hr with hr | rfl
 ·exact (rows_of h.is).1 r hr
 ·exact ⟨_,rfl,is_rows rfl (put_rows_ok h hv hrs hs)⟩
theorem sec_plain {r : List D} (hr : Codec.ok Sec r) : r.length = 8 ∧ ∀ x,x ∈ r → ∀ H,x.Ok H := by
 obtain ⟨a,b,c,d,e,f,g,i,rfl⟩ := hr
 refine ⟨rfl,fun x hx H=>?_⟩
 simp only [List.mem_cons,List.not_mem_nil,or_false] at hx
 rcases hx with rfl | rfl | rfl | rfl | rfl | rfl | rfl | rfl <;> exact .int _ _
theorem ImgW.put (hin : InMem H w) {w' : World} {cur : Array Value} {t : TypeId} (hg : w.heap[blk o v]? = some (.cells cur t (0,0)))
  (hw : w' = w.setRow (blk o v) (cur.toList.take (s * 8) ++ flat rs ++ cur.toList.drop (s * 8 + (flat rs).length)).toArray) :
  ∃ H',InMem H' w' ∧ ImgW n H' w' (o.putSec v s rs) ∧ (∀ H0 : HV,HLe H0 H → (∀ x,H0 (blk o v) x = none) → HLe H0 H') ∧ (∀ b x u,H' b x = some u → H b x = some u ∨ b = blk o v) ∧ s * 8 + (flat rs).length ≤ cur.size ∧ (∀ b,b ≠ blk o v → w'.heap[b]? = w.heap[b]?) := by
 obtain ⟨hrow,hsec,_⟩ := vol_row h.is hv
 obtain ⟨c,hhd⟩ := h.hd v hv
 have hne := h.ne v hv
 have hi := rows_of hsec
 have hl8 : ∀ r,r ∈ (o.cell v 0).rows → r.length = 8 := fun r hr=>(sec_plain h hv hrs hs (hi.1 r hr)).1
 have hr8 : ∀ r,r ∈ rs → r.length = 8 := fun r hr=>(sec_plain h hv hrs hs (hrs r hr)).1
 have hnl := put_rows_len h hv hrs hs
 have hno := put_rows_ok h hv hrs hs
 generalize hrows' : (o.cell v 0).rows.take s ++ rs ++ (o.cell v 0).rows.drop (s + rs.length) = rows' at hnl hno
 have hr' : ∀ r,r ∈ rows' → r.length = 8 := fun r hr=>(sec_plain h hv hrs hs (hno r hr)).1
 -- the inner slice lies in memory
 have hiok : (o.cell v 0).Ok H := by
  have hok := h.ok
  cases hok with
  | slc a c sz rows hsp hc hlen hcell hk =>
   have hm : rows[v]? = some [(D.slc (some (a,c)) sz rows).cell v 0] := hrow
   exact hk _ (List.mem_of_getElem? hm) _ (by simp)
  | nil sz=>simp [D.len,D.rows] at hv
  | int _ _=>obtain ⟨_,_,_,e,_⟩ := h.is; cases e
  | bool _=>obtain ⟨_,_,_,e,_⟩ := h.is; cases e
  | str _=>obtain ⟨_,_,_,e,_⟩ := h.is; cases e
 have hcells : ∀ i j r x,(o.cell v 0).rows[i]? = some r → r[j]? = some x → H (blk o v) (i * 8 + j) = some x.val := by
  intro i j r x h1 h2
  have hz : (o.cell v 0).sz = 8 := hsec.size (by
   rw [← D.Is.length (α := Sec)]
   have := (List.getElem?_eq_some_iff.1 h1).1
   exact (Nat.lt_of_le_of_lt (Nat.zero_le _) this : 0 < (o.cell v 0).rows.length))
  revert hhd hz h1
  generalize o.cell v 0 = q at hiok
  intro hhd h1 hz
  cases hiok with
  | slc a c sz rows hsp hc hlen hcell hk =>
   simp only [D.hd,Option.some.injEq,Prod.mk.injEq] at hhd
   obtain ⟨rfl,_⟩ := hhd
   simp only [D.sz] at hz
   subst hz
   have := hcell i j r x h1 h2
   simpa using this
  | nil sz=>simp [D.hd] at hhd
  | int _ _=>simp [D.hd] at hhd
  | bool _=>simp [D.hd] at hhd
  | str _=>simp [D.hd] at hhd
 have hpre : ∀ (x : Nat) (u : Value),(flat (o.cell v 0).rows)[x]? = some u → cur.toList[x]? = some u := by
  intro x u hx
  have hlen := flat_len hl8
  have hxl : x < (o.cell v 0).rows.length * 8 := by rw [← hlen]; exact (List.getElem?_eq_some_iff.1 hx).1
  have hi1 : x / 8 < (o.cell v 0).rows.length := by omega
  have hr1 : (o.cell v 0).rows[x / 8]? = some (o.cell v 0).rows[x / 8] := List.getElem?_eq_getElem hi1
  have hrl := hl8 _ (List.getElem_mem hi1)
  have hj1 : x % 8 < ((o.cell v 0).rows[x / 8]).length := by rw [hrl]; exact Nat.mod_lt _ (by decide)
  have hr2 : ((o.cell v 0).rows[x / 8])[x % 8]? = some ((o.cell v 0).rows[x / 8])[x % 8] := List.getElem?_eq_getElem hj1
  have e1 := flat_get hl8 _ _ _ _ hr1 hr2
  have e2 := hcells _ _ _ _ hr1 hr2
  have ex : x / 8 * 8 + x % 8 = x := by omega
  rw [ex] at e1 e2
  rw [hx] at e1
  cases e1
  have e3 := hin _ _ _ e2
  simp only [World.cell?,hg,Option.isSome_none,Bool.false_eq_true,if_false] at e3
  simpa using e3
 have hL := prefix_of hpre
 have hFl : (flat (o.cell v 0).rows).length = (o.cell v 0).rows.length * 8 := flat_len hl8
 have hMl : (flat rs).length = rs.length * 8 := flat_len hr8
 have hsr : s + rs.length ≤ (o.cell v 0).rows.length := hs
 have hfit : s * 8 + (flat rs).length ≤ (flat (o.cell v 0).rows).length := by rw [hFl,hMl,← Nat.add_mul]; exact Nat.mul_le_mul_right _ hsr
 have hcsz : (flat (o.cell v 0).rows).length ≤ cur.size := by
  have := congrArg List.length hL
  simp only [List.length_append,Array.length_toList,List.length_drop] at this
  omega
 have hF' : flat rows' = (flat (o.cell v 0).rows).take (s * 8) ++ flat rs ++ (flat (o.cell v 0).rows).drop (s * 8 + (flat rs).length) := by
  rw [← hrows',flat_append,flat_append]
  have tk : ∀ k,k ≤ (o.cell v 0).rows.length → flat ((o.cell v 0).rows.take k) = (flat (o.cell v 0).rows).take (k * 8) ∧ flat ((o.cell v 0).rows.drop k) = (flat (o.cell v 0).rows).drop (k * 8) := fun k hk=>by
   have e := flat_append ((o.cell v 0).rows.take k) ((o.cell v 0).rows.drop k)
   rw [List.take_append_drop] at e
   have e2 : (flat ((o.cell v 0).rows.take k)).length = k * 8 := by
    rw [flat_len (sz := 8) fun r hr=>hl8 r (List.mem_of_mem_take hr),List.length_take,Nat.min_eq_left hk]
   rw [e]
   exact ⟨by rw [← e2,List.take_left],by rw [← e2,List.drop_left]⟩
  rw [(tk s (by omega)).1,(tk (s + rs.length) hsr).2,hMl,Nat.add_mul]
 have hL' : cur.toList.take (s * 8) ++ flat rs ++ cur.toList.drop (s * 8 + (flat rs).length) = flat rows' ++ cur.toList.drop (flat (o.cell v 0).rows).length := by
  rw [hF']
  have e1 : cur.toList.take (s * 8) = (flat (o.cell v 0).rows).take (s * 8) := by
   rw [hL,List.take_append_of_le_length (by omega)]
  have e2 : cur.toList.drop (s * 8 + (flat rs).length) = (flat (o.cell v 0).rows).drop (s * 8 + (flat rs).length) ++ cur.toList.drop (flat (o.cell v 0).rows).length := by
   conv=>lhs; rw [hL]
   rw [List.drop_append_of_le_length hfit]
  rw [e1,e2,List.append_assoc,List.append_assoc,List.append_assoc]
 rw [hL'] at hw
 have hoth : ∀ b,b ≠ blk o v → w'.heap[b]? = w.heap[b]? := fun b hb=>by rw [hw]; exact setRow_other w _ _ _ hb
 have hnew : w'.heap[blk o v]? = some (.cells (flat rows' ++ cur.toList.drop (flat (o.cell v 0).rows).length).toArray t (0,0)) := by
  rw [hw]; exact setRow_heap w _ cur _ t _ hg
 refine ⟨H.row (blk o v) (flat rows'),?_,?_,?_,?_,by omega,hoth⟩
 ·intro b x u hb
  unfold HV.row at hb
  split at hb
  ·rename_i e
   subst e
   simp only [World.cell?,hnew,Option.isSome_none,Bool.false_eq_true,if_false]
   have := (List.getElem?_eq_some_iff.1 hb).1
   simp only [List.getElem?_toArray]
   rw [List.getElem?_append_left this]; exact hb
  ·rename_i e
   have := hin b x u hb
   simpa [World.cell?,hoth b e] using this
 ·-- the image
  have hrowne : rows' ≠ [] := fun e=>hne (List.length_eq_zero_iff.1 (by rw [← hnl,e]; rfl))
  have pc := @put_cell n H w o h v s rs hv hrs hs
  have pb := @put_blk n H w o h v s rs hv hrs hs
  have pl := put_len h hv hrs hs
  refine ⟨put_is h hv hrs hs,rfl,?_,fun v' hv'=>?_,fun v' hv'=>?_,fun v' hv'=>?_,fun v1 v2 h1 h2 e=>?_,fun v' hv'=>?_,fun v' hv'=>?_⟩
  ·-- in memory
   have key : ∀ v',(hv' : v' < o.len) → ((o.putSec v s rs).cell v' 0).Ok (H.row (blk o v) (flat rows')) := by
    intro v' hv'
    rw [pc hv']
    by_cases e : v' = v
    ·rw [if_pos e,hhd,hrows']
     refine .slc _ _ _ _ (fun _=>rfl) ?_ hr' (fun i j r x h1 h2=>?_) (fun r hr x hx=>(sec_plain h hv hrs hs (hno r hr)).2 x hx _)
     ·rw [hnl]
      revert hhd
      generalize o.cell v 0 = q at hiok
      intro hhd
      cases hiok with
      | slc a c' sz rows hsp hc hlen hcell hk=>simp only [D.hd,Option.some.injEq,Prod.mk.injEq] at hhd; rw [← hhd.2]; exact hc
      | nil sz=>simp [D.hd] at hhd
      | int _ _=>simp [D.hd] at hhd
      | bool _=>simp [D.hd] at hhd
      | str _=>simp [D.hd] at hhd
     ·simp only [HV.row,if_true,Nat.zero_add]
      exact flat_get hr' i j r x h1 h2
    ·rw [if_neg e]
     obtain ⟨hrow',hsec',_⟩ := vol_row h.is hv'
     obtain ⟨c',hhd'⟩ := h.hd v' hv'
     have hbne : blk o v' ≠ blk o v := fun e'=>e (h.dis v' v hv' hv e')
     have hok' : (o.cell v' 0).Ok H := by
      have hok := h.ok
      cases hok with
      | slc a c sz rows hsp hc hlen hcell hk =>
       have hm : rows[v']? = some [(D.slc (some (a,c)) sz rows).cell v' 0] := hrow'
       exact hk _ (List.mem_of_getElem? hm) _ (by simp)
      | nil sz=>simp [D.len,D.rows] at hv'
      | int _ _=>obtain ⟨_,_,_,e,_⟩ := h.is; cases e
      | bool _=>obtain ⟨_,_,_,e,_⟩ := h.is; cases e
      | str _=>obtain ⟨_,_,_,e,_⟩ := h.is; cases e
     have hsr' := (rows_of hsec').1
     revert hhd' hsr'
     generalize o.cell v' 0 = q at hok'
     intro hhd' hsr'
     cases hok' with
     | slc a c2 sz rows hsp hc hlen hcell hk =>
      simp only [D.hd,Option.some.injEq,Prod.mk.injEq] at hhd'
      obtain ⟨rfl,rfl⟩ := hhd'
      refine .slc _ _ _ _ hsp hc hlen (fun i j r x h1 h2=>?_) (fun r hr x hx=>(sec_plain h hv hrs hs (hsr' r hr)).2 x hx _)
      have := hcell i j r x h1 h2
      simp only [HV.row]
      rw [if_neg hbne]; exact this
     | nil sz=>simp [D.hd] at hhd'
     | int _ _=>simp [D.hd] at hhd'
     | bool _=>simp [D.hd] at hhd'
     | str _=>simp [D.hd] at hhd'
   have hok := h.ok
   have hout := h.out v hv
   have hsz := h.sz
   have hlen' : (o.putSec v s rs).rows.length = o.rows.length := pl
   have hrl' : ∀ r,r ∈ (o.putSec v s rs).rows → ∃ v',v' < o.len ∧ r = [(o.putSec v s rs).cell v' 0] := fun r hr=>by
    obtain ⟨i,hi',rfl⟩ := List.getElem_of_mem hr
    have hi2 : i < o.len := by rw [hlen'] at hi'; exact hi'
    have := (vol_row (put_is h hv hrs hs) (v := i) (by rw [pl]; exact hi2)).1
    rw [List.getElem?_eq_getElem hi'] at this
    exact ⟨i,hi2,Option.some.inj this⟩
   have hvals : ∀ i,i < o.len → ((o.putSec v s rs).cell i 0).val = (o.cell i 0).val := fun i hi'=>by
    rw [pc hi']
    split
    ·rename_i e; subst e
     obtain ⟨a,b,cc,e',_⟩ := hsec
     rw [hrows']
     rw [e'] at hnl ⊢
     simp only [D.val,D.hd,D.rows] at hnl ⊢
     rw [hnl]
    ·rfl
   have hput : o.putSec v s rs = .slc o.hd 1 (o.putSec v s rs).rows := rfl
   rw [hput]
   have hc1 : ∀ i,i < o.len → o.rows[i]? = some [o.cell i 0] := fun i hi'=>(vol_row h.is hi').1
   have hc2 : ∀ i,i < o.len → (o.putSec v s rs).rows[i]? = some [(o.putSec v s rs).cell i 0] := fun i hi'=>(vol_row (put_is h hv hrs hs) (by rw [pl]; exact hi')).1
   generalize (o.putSec v s rs).rows = R at hlen' hrl' hc2
   generalize hcell' : (fun i=>(o.putSec v s rs).cell i 0) = cf at *
   have cfe : ∀ i,(o.putSec v s rs).cell i 0 = cf i := fun i=>congrFun hcell' i
   simp only [cfe] at hrl' hvals hc2 key
   clear cfe hcell' pc pb hput
   cases hok with
   | slc a c' sz rows hsp hc hlen hcell hk =>
    simp only [D.sz] at hsz
    subst hsz
    simp only [D.hd]
    refine .slc _ _ _ _ (fun _=>hsp (fun e=>by rw [e] at hv; simp [D.len,D.rows] at hv)) (by rw [hlen']; exact hc) (fun r hr=>by obtain ⟨v',_,rfl⟩ := hrl' r hr; rfl) (fun i j r x h1 h2=>?_) (fun r hr x hx=>?_)
    ·have hi' : i < R.length := (List.getElem?_eq_some_iff.1 h1).1
     have hi2 : i < rows.length := by rw [hlen'] at hi'; exact hi'
     have e1 := hc2 i hi2
     rw [h1] at e1
     cases e1
     have hj : j = 0 := by
      have := (List.getElem?_eq_some_iff.1 h2).1
      simp at this; exact this
     subst hj
     simp only [List.getElem?_cons_zero,Option.some.injEq] at h2
     subst h2
     have e2 := hcell i 0 _ _ (hc1 i hi2) rfl
     have e3 := hvals i hi2
     rw [e3]
     simp only [HV.row]
     rw [if_neg (show ¬a.block = _ from hout)]; exact e2
    ·obtain ⟨v',hv',rfl⟩ := hrl' r hr
     rw [List.mem_singleton.1 hx]
     exact key v' hv'
   | nil sz=>simp [D.len,D.rows] at hv
   | int _ _=>obtain ⟨_,_,_,e,_⟩ := h.is; cases e
   | bool _=>obtain ⟨_,_,_,e,_⟩ := h.is; cases e
   | str _=>obtain ⟨_,_,_,e,_⟩ := h.is; cases e
  ·rw [pl] at hv'
   rw [pc hv']
   split
   ·rw [hrows']; exact hrowne
   ·exact h.ne v' hv'
  ·rw [pl] at hv'
   rw [pb hv',pc hv']
   split
   ·rename_i e; subst e; exact ⟨c,hhd⟩
   ·exact h.hd v' hv'
  ·rw [pl] at hv'; rw [pb hv']; exact h.low v' hv'
  ·rw [pl] at h1 h2; rw [pb h1,pb h2] at e; exact h.dis v1 v2 h1 h2 e
  ·rw [pl] at hv'; rw [pb hv']; exact h.out v' hv'
  ·rw [pl] at hv'; rw [pb hv']
   by_cases e : blk o v' = blk o v
   ·rw [e]; exact ⟨_,_,hnew⟩
   ·rw [hoth _ e]; exact h.live v' hv'
 ·intro H0 hle hn b x u hb
  unfold HV.row
  split
  ·rename_i e; subst e; rw [hn] at hb; cases hb
  ·exact hle b x u hb
 ·intro b x u hb
  unfold HV.row at hb
  split at hb
  ·rename_i e; exact .inr e
  ·exact .inl hb
end
theorem ImgW.mono {n : Nat} {H H' : HV} {w w' : World} {o : D} (h : ImgW n H w o) (a : After w H w' H') : ImgW n H' w' o :=
 ⟨h.is,h.sz,h.ok.mono a.le,h.ne,h.hd,h.low,h.dis,h.out,fun v hv=>by
  obtain ⟨cur,t,hg⟩ := h.live v hv
  exact ⟨cur,t,by rw [a.below.block _ (Array.getElem?_eq_some_iff.1 hg).1]; exact hg⟩⟩
/-! A frame's slots, from this very world on. -/
def envJ (E : Env) (T : Array Value) : Env := ⟨E.b,E.v,fun i=>T.getD i Go.undef⟩
theorem slotS_cases (l : List (Nat × SV)) (t : Nat) (d : SV) : slotS l t d = d ∨ ∃ p,p ∈ l ∧ p.1 = t ∧ slotS l t d = p.2 := by
 induction l with
 | nil=>exact .inl rfl
 | cons p r ih =>
  obtain ⟨u,v⟩ := p
  unfold slotS
  by_cases h : u = t
  ·subst h; right; exact ⟨(u,v),List.mem_cons_self,rfl,by simp⟩
  ·have hb : (u == t) = false := by simpa using h
   rw [hb]
   simp only [Bool.false_eq_true,if_false]
   rcases ih with h | ⟨p,h1,h2,h3⟩
   ·exact .inl h
   ·exact .inr ⟨p,List.mem_cons_of_mem _ h1,h2,h3⟩
theorem den_mkJ {E : Env} {T : Array Value} {sl : List (Nat × SV)} (hs : ∀ p,p ∈ sl → p.2.den (envJ E T) = T.getD p.1 Go.undef) : ∀ (m t : Nat),t + m = T.size → SV.denL (envJ E T) (mkJ 0 sl t m) = T.toList.drop t
 | 0,t,h=>by
  simp only [mkJ,SV.denL]
  rw [List.drop_eq_nil_of_le (by rw [Array.length_toList]; omega)]
 | m + 1,t,h=>by
  have ht : t < T.toList.length := by rw [Array.length_toList]; omega
  have e : (slotS sl t (.junk (1000 * 0 + t))).den (envJ E T) = T.toList[t] := by
   have e2 : T.getD t Go.undef = T.toList[t] := by
    have : t < T.size := by omega
    simp [this]
   rcases slotS_cases sl t (.junk (1000 * 0 + t)) with h1 | ⟨p,h1,h2,h3⟩
   ·rw [h1,← e2]; simp [SV.den,envJ]
   ·rw [h3,hs p h1,h2,e2]
  simp only [mkJ,SV.denL]
  rw [den_mkJ hs m (t + 1) (by omega),e,← List.drop_eq_getElem_cons ht]
theorem ok_mkJ {H : HV} {sl : List (Nat × SV)} (hs : ∀ p,p ∈ sl → p.2.Ok H) (m t : Nat) : SV.OkL H (mkJ 0 sl t m) := by
 rw [SV.OkL_iff]
 intro x hx
 have : ∀ (m t : Nat),x ∈ mkJ 0 sl t m → ∃ t,x = slotS sl t (.junk (1000 * 0 + t)) := by
  intro m
  induction m with
  | zero=>intro t h; simp [mkJ] at h
  | succ m ih =>
   intro t h
   simp only [mkJ,List.mem_cons] at h
   rcases h with h | h
   ·exact ⟨t,h⟩
   ·exact ih _ h
 obtain ⟨t,rfl⟩ := this m t hx
 rcases slotS_cases sl t (.junk (1000 * 0 + t)) with h1 | ⟨p,h1,_,h3⟩
 ·rw [h1]; simp [SV.Ok]
 ·rw [h3]; exact hs p h1
theorem stk_to {P : Program} {f : FuncId} {ri : Option (Array Oper × List Nat)} {aw : Option Tmp} {k : List Item} {T : Array Value} {sl : List (Nat × SV)} {n : Nat} {E : Env} {H : HV} {w : World} {R : Value → World → Prop} (hn : n = T.size)
  (hs : ∀ p,p ∈ sl → p.2.den (envJ E T) = T.getD p.1 Go.undef) (hok : ∀ p,p ∈ sl → p.2.Ok H) (hin : InMem H w) (h : At P ⟨⟨f,ri,aw,k,mkJ 0 sl 0 n⟩,[],[]⟩ H w R) : StkRun P ctxPlain ⟨f,ri,aw,k,⟨T,[]⟩,none⟩ [] w R := by
 have := h (envJ E T) ⟨ok_mkJ hok _ _,by simp⟩ hin
 simp only [SFrm.den,List.map_nil] at this
 rw [den_mkJ hs n 0 (by omega),List.drop_zero,Array.toArray_toList] at this
 exact this
end Sx
end
section
namespace Sx
open Go RowKit
def innerOk (n : Nat) (H : HV) (w : World) (d : D) : Prop :=
 d.Is Sec ∧ d.Ok H ∧ d.rows ≠ [] ∧ ∃ B c,d.hd = some (⟨B,0,none⟩,c) ∧ n ≤ B ∧ ∃ cur t,w.heap[B]? = some (.cells cur t (0,0))
def blkD (d : D) : Nat := d.addr.block
structure BuildI (n : Nat) (H : HV) (w : World) (e : TypeId) (ov : Value) (ds : List D) : Prop where
 own : w.ownsRow n e 1 ov ds.length (flat (ds.map fun d=>[d]))
 noH : ∀ b,ov.ownBlock = some b → ∀ x,H b x = none
 inn : ∀ d,d ∈ ds → innerOk n H w d
 dis : (ds.map blkD).Nodup
theorem blkD_of {d : D} {B c : Nat} (h : d.hd = some (⟨B,0,none⟩,c)) : blkD d = B := by unfold blkD D.addr; rw [h]
theorem innerOk.mono {n : Nat} {H H' : HV} {w w' : World} {d : D} (h : innerOk n H w d) (a : After w H w' H') : innerOk n H' w' d := by
 obtain ⟨h1,h2,h3,B,c,h4,h5,cur,t,h6⟩ := h
 exact ⟨h1,h2.mono a.le,h3,B,c,h4,h5,cur,t,by rw [a.below.block _ (Array.getElem?_eq_some_iff.1 h6).1]; exact h6⟩
theorem innerOk.cell {n : Nat} {H : HV} {w : World} {d : D} (h : innerOk n H w d) : ∃ u,H (blkD d) 0 = some u := by
 obtain ⟨h1,h2,h3,B,c,h4,_⟩ := h
 rw [blkD_of h4]
 have hr := (rows_of h1).1
 cases h2 with
 | slc a c' sz rows hsp hc hlen hcell hk =>
  simp only [D.hd,Option.some.injEq,Prod.mk.injEq] at h4
  obtain ⟨rfl,rfl⟩ := h4
  cases rows with
  | nil=>exact absurd rfl h3
  | cons r rs =>
   have := hr r (by simp [D.rows])
   obtain ⟨x0,x1,x2,x3,x4,x5,x6,x7,rfl⟩ := this
   exact ⟨_,by simpa using hcell 0 0 _ _ rfl rfl⟩
 | nil sz=>simp [D.hd] at h4
 | int _ _=>simp [D.hd] at h4
 | bool _=>simp [D.hd] at h4
 | str _=>simp [D.hd] at h4
theorem BuildI.mono {n : Nat} {H H' : HV} {w w' : World} {e : TypeId} {ov : Value} {ds : List D} (h : BuildI n H w e ov ds) (a : After w H w' H') : BuildI n H' w' e ov ds := by
 refine ⟨⟨h.own.1,?_⟩,fun b hb x=>?_,fun d hd=>(h.inn d hd).mono a,h.dis⟩
 ·rcases h.own.2 with h1 | ⟨g,cap,cur,h1,h2,h3,h4⟩
  ·exact .inl h1
  ·exact .inr ⟨g,cap,cur,h1,h2,by rw [a.below.block _ (Array.getElem?_eq_some_iff.1 h3).1]; exact h3,h4⟩
 ·have hlt : b < w.heap.size := by
   rcases h.own.2 with ⟨h1,_⟩ | ⟨g,cap,cur,h1,h2,h3,h4⟩
   ·rw [h1] at hb; simp [Value.ownBlock] at hb
   ·rw [h1] at hb
    simp only [Value.ownBlock,Option.some.injEq] at hb
    subst hb
    exact (Array.getElem?_eq_some_iff.1 h3).1
  cases hx : H' b x with
  | none=>rfl
  | some u =>
   rcases a.fresh b x u hx with h1 | h1
   ·rw [h.noH b hb x] at h1; cases h1
   ·omega
theorem pub_inner {w w1 : World} {H H1 : HV} {m : Mem} {E : Env} {k : Nat} {e : TypeId} {d : D} (g : Good ⟨w,H⟩ m E H1 w1) (hg : m.get k = some (.arr e d)) (hs : d.Is Sec) (hne : d.rows ≠ []) :
  ∃ H2,After w H w1 H2 ∧ HLe H1 H2 ∧ innerOk w.heap.size H2 w1 d ∧ (SV.vec k).den E = d.val := by
 obtain ⟨H2,hle,g2,hok,_⟩ := g.publish hg
 obtain ⟨h,sz,rows,rfl,hv,how,_,_,ha⟩ := g.own k _ (Mem.get_mem hg)
 refine ⟨H2,after_good g2,hle,⟨hs,hok,hne,?_⟩,?_⟩
 ·rcases how.2 with ⟨h1,h0⟩ | ⟨gg,cap,cur,h1,h2,h3,_⟩
  ·exact absurd (List.length_eq_zero_iff.1 h0) hne
  ·cases h with
   | none=>simp [D.val,hval] at h1
   | some ac =>
    obtain ⟨a,c⟩ := ac
    simp only [D.val,hval,Value.slice.injEq,Option.some.injEq] at h1
    obtain ⟨rfl,_,rfl⟩ := h1
    exact ⟨gg,c,rfl,h2,cur,_,h3⟩
 ·simp only [SV.den,hv]; rfl
theorem build_append {P : Program} {w0 w w1 : World} {H0 H H1 : HV} {m : Mem} {E : Env} {k : Nat} {t ty e : TypeId} {i : TypeInfo} {z ov : Value} {ds : List D} {d : D} {hh : Hd}
  (ht : P.underlying t = some (.slice e)) (hi : P.info? e = some i) (hz : i.zero = some z) (hzs : z.cells.size = i.size) (his : i.size = 1) (hib : i.bytes ≤ 1000)
  (a : After w0 H0 w H) (b : BuildI w0.heap.size H w e ov ds) (hd : innerOk w0.heap.size H w d) (hnew : blkD d ∉ ds.map blkD) (g : Good ⟨w,H⟩ m E H1 w1) (hg : m.get k = some (.arr e (.slc hh 1 [[d]]))) (hlen : ds.length ≤ 1048576) {key : Nat} (hkey : Mem.has key m = false) :
  ∃ w2 ov',(Builtin.append_ #[t,t] ty #[ov,(SV.vec k).den E]).run P w1 = .ok ov' w2 ∧ After w0 H0 w2 H1 ∧ BuildI w0.heap.size H1 w2 e ov' (ds ++ [d]) := by
 have a1 := after_good g
 have b1 := b.mono a1
 have hd1 := hd.mono a1
 have a01 := a.trans a1
 have hmem := Mem.get_mem hg
 obtain ⟨h',sz',rows',he,hv,how,hrl,hro,hb⟩ := g.own k _ hmem
 cases he
 have gd : Good ⟨w0,H1⟩ m E H1 w1 := ⟨a01.below,HLe.refl _,fun _ _ _ h=>.inl h,g.cell,fun j o hj=>(g.own j o hj).ctx a.below.size,g.keys,g.apart,fixOk_plain _ _ _⟩
 have hxr : Reads w1 ((SV.vec k).den E) i.size [[d]] := by
  rw [his]
  have := reads_own (C := ⟨w,H⟩) (H := H1) (g.own k _ hmem)
  simp only [SV.den]
  exact this
 have hold : ∀ r,r ∈ ds.map (fun d=>[d]) → r.length = i.size := fun r hr=>by obtain ⟨x,_,rfl⟩ := List.mem_map.1 hr; rw [his]; rfl
 obtain ⟨w2,h2,bb,hrun,g2,hsz,hkeep,hbb,hos⟩ := Good.append t ty e i z ht hi hz hzs gd ov (ds.map fun d=>[d]) (by rw [his,List.length_map]; exact b1.own) hold
  (fun r hr x hx=>by
   obtain ⟨y,hy,rfl⟩ := List.mem_map.1 hr
   rw [List.mem_singleton.1 hx]; exact (b1.inn y hy).2.1)
  (fun q hq=>⟨b1.noH q hq,fun j p hj hl=>by
   have h1 := (g.own j p hj).low hl
   have hlt : q < w.heap.size := by
    rcases b.own.2 with ⟨h1,_⟩ | ⟨g',cap,cur,h1,_,h3,_⟩
    ·rw [h1] at hq; simp [Value.ownBlock] at hq
    ·rw [h1] at hq
     simp only [Value.ownBlock,Option.some.injEq] at hq
     subst hq
     exact (Array.getElem?_eq_some_iff.1 h3).1
   have h1 : w.heap.size ≤ E.b j := h1
   omega⟩)
  ((SV.vec k).den E) [[d]] hxr (fun r hr x hx=>by
   rw [List.mem_singleton.1 hr] at hx
   rw [List.mem_singleton.1 hx]; exact hd1.2.1)
  (by
   have : (ds.length + 1) * i.bytes ≤ 1048577 * 1000 := Nat.mul_le_mul (by omega) hib
   rw [List.length_map]
   show (ds.length + 1) * i.bytes ≤ _
   omega)
  (by rw [List.length_map]; show ds.length + 1 ≤ maxLen; unfold maxLen; omega) key hkey
 have hcell2 : ∀ q x u,H1 q x = some u → w2.cell? ⟨q,x,none⟩ = some u := g2.cell
 have o2 := g2.own key _ List.mem_cons_self
 obtain ⟨hx,szx,rowsx,he2,hv2,how2,_,_,ha2⟩ := o2
 cases he2
 have hap : ds.map (fun d=>[d]) ++ [[d]] = (ds ++ [d]).map fun d=>[d] := by simp
 refine ⟨w2,_,hrun,⟨g2.below,a01.le,a01.fresh,hcell2⟩,⟨?_,fun q hq x=>?_,fun y hy=>?_,?_⟩⟩
 ·rw [hap] at how2
  rw [his] at how2
  have e1 : (D.slc h2 1 ((ds ++ [d]).map fun d=>[d])).val = hval h2 ((ds.map fun d=>[d]).length + [[d]].length) := by
   simp [D.val]
  rw [e1] at how2
  simpa using how2
 ·cases h2 with
  | none=>simp [hval,Value.ownBlock] at hq
  | some ac =>
   obtain ⟨a',c'⟩ := ac
   simp only [hval,Value.ownBlock,Option.some.injEq] at hq
   obtain ⟨e1,e2⟩ := ha2 a' c' rfl
   rw [← hq,e1]; exact e2 x
 ·have hy1 : innerOk w0.heap.size H1 w1 y := by
   rcases List.mem_append.1 hy with h | h
   ·exact b1.inn y h
   ·rw [List.mem_singleton.1 h]; exact hd1
  obtain ⟨u,hu⟩ := hy1.cell
  obtain ⟨q1,q2,q3,B,c,q4,q5,cur,tt,q6⟩ := hy1
  refine ⟨q1,q2,q3,B,c,q4,q5,cur,tt,?_⟩
  rw [hkeep B (Array.getElem?_eq_some_iff.1 q6).1 (fun e'=>by
   have := b1.noH B e' 0
   rw [blkD_of q4] at hu
   rw [hu] at this; cases this)]
  exact q6
 ·rw [List.map_append,List.nodup_append]
  refine ⟨b1.dis,by simp,fun x hx y hy=>?_⟩
  simp only [List.map_cons,List.map_nil,List.mem_singleton] at hy
  subst hy
  intro e'; subst e'; exact hnew hx
theorem nodup_inj : ∀ {l : List Nat},l.Nodup → ∀ {i j : Nat} (hi : i < l.length) (hj : j < l.length),l[i] = l[j] → i = j
 | [],_,_,_,hi,_,_=>absurd hi (Nat.not_lt_zero _)
 | x :: r,h,i,j,hi,hj,e=>by
  rw [List.nodup_cons] at h
  cases i with
  | zero =>
   cases j with
   | zero=>rfl
   | succ j =>
    simp only [List.getElem_cons_zero,List.getElem_cons_succ] at e
    exact absurd (e ▸ List.getElem_mem _) h.1
  | succ i =>
   cases j with
   | zero =>
    simp only [List.getElem_cons_zero,List.getElem_cons_succ] at e
    exact absurd (e ▸ List.getElem_mem _) h.1
   | succ j =>
    simp only [List.getElem_cons_succ] at e
    rw [nodup_inj h.2 _ _ e]
theorem build_done {n : Nat} {H : HV} {w : World} {e : TypeId} {ov : Value} {ds : List D} (b : BuildI n H w e ov ds) (hne : ds ≠ []) (hin : InMem H w) :
  ∃ H' o,HLe H H' ∧ InMem H' w ∧ (∀ q x u,H' q x = some u → H q x = some u ∨ n ≤ q) ∧ ImgW n H' w o ∧ o.val = ov ∧ o.rows = ds.map fun d=>[d] := by
 rcases b.own.2 with ⟨_,h0⟩ | ⟨g,cap,cur,rfl,hlow,hg,hnc,hcm,hcs,htake⟩
 ·exact absurd (List.length_eq_zero_iff.1 h0) hne
 ·have hno : ∀ x,H g x = none := b.noH g rfl
  have hle : HLe H (H.row g (flat (ds.map fun d=>[d]))) := HV.row_le hno
  let o : D := .slc (some (⟨g,0,none⟩,cap)) 1 (ds.map fun d=>[d])
  have hcell : ∀ v,(hv : v < ds.length) → o.cell v 0 = ds[v] := fun v hv=>by
   simp [o,D.cell,D.cellAt,D.rows,hv]
  have hlen : o.len = ds.length := by simp [o,D.len,D.rows]
  have hbk : ∀ v,(hv : v < ds.length) → blk o v = blkD ds[v] := fun v hv=>by unfold blk; rw [hcell v hv]; rfl
  refine ⟨H.row g (flat (ds.map fun d=>[d])),o,hle,fun q x u hq=>?_,fun q x u hq=>?_,⟨?_,rfl,?_,fun v hv=>?_,fun v hv=>?_,fun v hv=>?_,fun v v' h1 h2 e'=>?_,fun v hv=>?_,fun v hv=>?_⟩,by simp [o,D.val,hval],rfl⟩
  ·unfold HV.row at hq
   split at hq
   ·rename_i e'; subst e'
    simp only [World.cell?,hg,Option.isSome_none,Bool.false_eq_true,if_false]
    rw [← htake,List.getElem?_take] at hq
    split at hq
    ·simpa using hq
    ·cases hq
   ·exact hin q x u hq
  ·unfold HV.row at hq
   split at hq
   ·rename_i e'; subst e'; exact .inr hlow
   ·exact .inl hq
  ·refine is_rows rfl fun r hr=>?_
   obtain ⟨d,hd,rfl⟩ := List.mem_map.1 hr
   exact ⟨d,rfl,(b.inn d hd).1⟩
  ·refine .slc _ _ _ _ (fun _=>rfl) (by simpa using hnc) (fun r hr=>by obtain ⟨d,_,rfl⟩ := List.mem_map.1 hr; rfl) (fun i j r x h1 h2=>?_) (fun r hr x hx=>?_)
   ·simp only [HV.row,if_true,Nat.zero_add]
    exact flat_get (sz := 1) (fun r hr=>by obtain ⟨d,_,rfl⟩ := List.mem_map.1 hr; rfl) i j r x h1 h2
   ·obtain ⟨d,hd,rfl⟩ := List.mem_map.1 hr
    rw [List.mem_singleton.1 hx]; exact (b.inn d hd).2.1.mono hle
  all_goals rw [hlen] at *
  ·rw [hcell v hv]; exact (b.inn _ (List.getElem_mem hv)).2.2.1
  ·rw [hbk v hv,hcell v hv]
   obtain ⟨_,_,_,B,c,h4,_⟩ := b.inn _ (List.getElem_mem hv)
   exact ⟨c,by rw [blkD_of h4]; exact h4⟩
  ·rw [hbk v hv]
   obtain ⟨_,_,_,B,c,h4,h5,_⟩ := b.inn _ (List.getElem_mem hv)
   rw [blkD_of h4]; exact h5
  ·rw [hbk v h1,hbk v' h2] at e'
   have hn := b.dis
   have l1 : v < (ds.map blkD).length := by rw [List.length_map]; exact h1
   have l2 : v' < (ds.map blkD).length := by rw [List.length_map]; exact h2
   have g1 : (ds.map blkD)[v] = blkD ds[v] := List.getElem_map ..
   have g2 : (ds.map blkD)[v'] = blkD ds[v'] := List.getElem_map ..
   exact nodup_inj hn l1 l2 (by rw [g1,g2,e'])
  ·rw [hbk v hv]
   obtain ⟨u,hu⟩ := (b.inn _ (List.getElem_mem hv)).cell
   show g ≠ _
   intro e'
   rw [← e',hno] at hu; cases hu
  ·rw [hbk v hv]
   obtain ⟨_,_,_,B,c,h4,h5,cur',t',h6⟩ := b.inn _ (List.getElem_mem hv)
   rw [blkD_of h4]; exact ⟨cur',t',h6⟩
theorem innerOk.low {n n' : Nat} {H : HV} {w : World} {d : D} (h : innerOk n H w d) (hn : n' ≤ n) : innerOk n' H w d := by
 obtain ⟨h1,h2,h3,B,c,h4,h5,h6⟩ := h
 exact ⟨h1,h2,h3,B,c,h4,Nat.le_trans hn h5,h6⟩
theorem innerOk.fresh {n : Nat} {H H' : HV} {w w' : World} {e : TypeId} {ov : Value} {ds : List D} {d : D} (h : innerOk w.heap.size H' w' d) (b : BuildI n H w e ov ds) : blkD d ∉ ds.map blkD := by
 intro hm
 obtain ⟨y,hy,hyd⟩ := List.mem_map.1 hm
 obtain ⟨_,_,_,B,c,h4,h5,_⟩ := h
 obtain ⟨_,_,_,B',c',h4',_,cur,t,h6'⟩ := b.inn y hy
 have := (Array.getElem?_eq_some_iff.1 h6').1
 rw [blkD_of h4,blkD_of h4'] at hyd
 omega
def CpR (w0 : World) (H0 : HV) (vs : List Vol) : Value → World → Prop := fun u w'=>∃ H' o,After w0 H0 w' H' ∧ ImgW w0.heap.size H' w' o ∧ u = o.val ∧ o.to Vol = vs
theorem ret_img {P : Program} {w0 w : World} {H0 H : HV} {e : TypeId} {ov : Value} {ds : List D} {vs : List Vol} (a : After w0 H0 w H) (b : BuildI w0.heap.size H w e ov ds) (hne : ds ≠ []) (hto : ds.map (fun d=>Vol.mk (d.to Sec)) = vs) :
  (Tree.ret (.raw ov)).holds P ⟨w,H⟩ (CpR w0 H0 vs) := by
 refine ⟨rfl,fun E H' w' g hv=>?_⟩
 have a1 := a.trans (after_good g)
 obtain ⟨H2,o,hle,hin,hfr,hI,hv,hr⟩ := build_done (b.mono (after_good g)) hne g.cell
 refine ⟨H2,o,⟨a1.below,a1.le.trans hle,fun q x u hq=>?_,hin⟩,hI,hv.symm,?_⟩
 ·rcases hfr q x u hq with h | h
  ·exact a1.fresh q x u h
  ·exact .inr h
 ·simp only [D.to,hr,List.map_map]
  rw [← hto]; rfl
theorem buildI_own {w w1 : World} {H H1 : HV} {m : Mem} {E : Env} {k : Nat} {e : TypeId} {hh : Hd} (g : Good ⟨w,H⟩ m E H1 w1) (hg : m.get k = some (.arr e (.slc hh 1 []))) : BuildI w.heap.size H1 w1 e ((SV.vec k).den E) [] := by
 obtain ⟨h,sz,rows,he,hv,how,_,_,ha⟩ := g.own k _ (Mem.get_mem hg)
 cases he
 refine ⟨?_,fun b hb x=>?_,fun d hd=>by simp at hd,by simp⟩
 ·simp only [SV.den,hv]
  exact how
 ·simp only [SV.den,hv] at hb
  cases hh with
  | none=>simp [hval,Value.ownBlock] at hb
  | some ac =>
   obtain ⟨a,c⟩ := ac
   simp only [hval,Value.ownBlock,Option.some.injEq] at hb
   obtain ⟨e1,e2⟩ := ha a c rfl
   rw [← hb,e1]; exact e2 x
theorem stk_call {P : Program} {f : FuncId} {ri : Option (Array Oper × List Nat)} {aw : Option Tmp} {k : List Item} {T : Array Value} {sl : List (Nat × SV)} {n : Nat} {E : Env} {H : HV} {w : World} {R1 R : Value → World → Prop} {g : CFrm} {r : List CFrm} (hn : n = T.size)
  (hs : ∀ p,p ∈ sl → p.2.den (envJ E T) = T.getD p.1 Go.undef) (hok : ∀ p,p ∈ sl → p.2.Ok H) (hin : InMem H w) (h : At P ⟨⟨f,ri,aw,k,mkJ 0 sl 0 n⟩,[],[]⟩ H w R1)
  (h2 : ∀ u w',R1 u w' → StkRun P ctxPlain { g with act := g.act.put g.await u } r w' R) : StkRun P ctxPlain ⟨f,ri,aw,k,⟨T,[]⟩,none⟩ (g :: r) w R := by
 have hr := stk_to hn hs hok hin h
 exact CFrm.run_mono hr h2
theorem stk_aw {P : Program} {f : FuncId} {ri : Option (Array Oper × List Nat)} {aw aw' : Option Tmp} {k : List Item} {a : Act} {r : List CFrm} {w : World} {R : Value → World → Prop} (h : StkRun P ctxPlain ⟨f,ri,aw,k,a,none⟩ r w R) : StkRun P ctxPlain ⟨f,ri,aw',k,a,none⟩ r w R := by
 cases r <;> exact h
end Sx
end
section
open Go Go.Proofs Sx
namespace Go.Proofs.Ytodhhmjilnfecaa
set_option maxRecDepth 100000
set_option maxHeartbeats 0
noncomputable def ctAp : Ctrs := [(101,ctrOf (rdD.one.sp spChkI)),(103,ctrOf ((rdD.two rdWt).sp spFits1))]
section
variable (im l : D)

end
end Go.Proofs.Ytodhhmjilnfecaa
end
section
open Go Go.Proofs Sx
namespace Go.Proofs.Ytodhhmjilnfecaa
set_option maxRecDepth 100000
set_option maxHeartbeats 0
noncomputable def mcL (d : D) (o : SV) (j : Int) : Conf := Conf.mk (SFrm.mk 111 none none [Item.inLoop (cAt Try.prog 111 [1,1,0,1,0,0]),Item.inBlock 0,Item.code (cAt Try.prog 111 [1,1,1])] (mkJ 0 [(1,.fn 81 [] []),(5,o),(11,.dat d),(12,.int .i64 (d.len : Int)),(13,.int .i64 j)] 0 25)) [] []
section
variable (im : D) (j : Int) (o : Value)
theorem mc_in : goM Try.prog [] [] [(111,MidK.build)] 300 (unroll (mcL im (.raw o) j)) =
 Tree.br (decide (j < (↑(D.len im) : Int)))
 (.need (0 ≤ j ∧ j < (↑(D.len im) : Int) ∧ D.sz im = 1)
 (.need (D.HasCell im (Int.toNat j) 0 FT.slc)
 (.br
 (nilOf
 (evS
 (putS
 [.dat (D.cell im (Int.toNat j) 0),SV.undef,.nils,SV.undef,SV.undef,SV.undef,SV.undef,SV.undef]
 (some 3)
 (evS
 [.dat (D.cell im (Int.toNat j) 0),SV.undef,.nils,SV.undef,SV.undef,SV.undef,SV.undef,
 SV.undef]
 (Operand.tmp 0)))
 (Operand.tmp 3))
 (D.cell im (Int.toNat j) 0))
 (.leaf
 (Conf.mk
 (SFrm.mk 111 (some (opsAt Try.prog 111 [1,1,0,1,0,0,1,1,0,0,1],[4,5,6])) none
 [Item.inBlock 1,Item.code (cAt Try.prog 111 [1,1,0,1,0,0,1,1,1]),
 Item.inLoop (cAt Try.prog 111 [1,1,0,1,0,0]),Item.inBlock 0,
 Item.code (cAt Try.prog 111 [1,1,1])]
 (mkJ 0
 [(1,SV.fn 81 [] []),(5,SV.raw o),(7,.dat (D.cell im (Int.toNat j) 0)),(11,.dat im),
 (12,.int .i64 (↑(D.len im) : Int)),(13,.int .i64 j),
 (14,.bool (decide (j < (↑(D.len im) : Int)))),(15,SV.elt im (Int.toNat j) 0),
 (16,.dat (D.cell im (Int.toNat j) 0)),(17,SV.raw o),(18,SV.fn 81 [] []),
 (19,.dat (D.cell im (Int.toNat j) 0)),(20,.nils)]
 0 25))
 [] []))
 (.all fun hs =>
 .need
 (D.sz (D.slc (D.hd (hs 0 0)) 8 []) = 8 ∧
 D.Fits (D.cell im (Int.toNat j) 0) 8 ∧
 (D.len (D.slc (D.hd (hs 0 0)) 8 []) + D.len (D.cell im (Int.toNat j) 0)) * 8 ≤ 140737488355328 ∧
 D.len (D.slc (D.hd (hs 0 0)) 8 []) + D.len (D.cell im (Int.toNat j) 0) ≤ 9223372036854775807)
 (.all fun hs_1 =>
 .leaf
 (Conf.mk
 (SFrm.mk 111 (some (opsAt Try.prog 111 [1,1,0,1,0,0,1,1,0,0,1],[4,5,6])) none
 [Item.inBlock 1,Item.code (cAt Try.prog 111 [1,1,0,1,0,0,1,1,1]),
 Item.inLoop (cAt Try.prog 111 [1,1,0,1,0,0]),Item.inBlock 0,
 Item.code (cAt Try.prog 111 [1,1,1])]
 (mkJ 0
 [(1,SV.fn 81 [] []),(5,SV.raw o),(7,.dat (D.cell im (Int.toNat j) 0)),(11,.dat im),
 (12,.int .i64 (↑(D.len im) : Int)),(13,.int .i64 j),
 (14,.bool (decide (j < (↑(D.len im) : Int)))),(15,SV.elt im (Int.toNat j) 0),
 (16,.dat (D.cell im (Int.toNat j) 0)),(17,SV.raw o),(18,SV.fn 81 [] []),
 (19,.dat (D.cell im (Int.toNat j) 0)),(20,.vec 2007)]
 0 25))
 []
 [(2007,
 OBlk.arr 81
 (D.slc (D.hd (hs_1 0 0)) 8
 (List.append (D.rows (D.slc (D.hd (hs 0 0)) 8 []))
 (D.rows (D.cell im (Int.toNat j) 0)))))]))))))
 (.ret (SV.raw o)) := by kernel_rfl


end
end Go.Proofs.Ytodhhmjilnfecaa
end
section
open Go Go.Proofs Sx
namespace Go.Proofs.Ytodhhmjilnfecaa
set_option maxRecDepth 100000
set_option maxHeartbeats 0
noncomputable def apL (o l : D) (j : Int) : Conf := Conf.mk (SFrm.mk 74 none none [Item.inLoop (cAt Try.prog 74 [1,1,1,0,1,0,0]),Item.inBlock 0,Item.code (cAt Try.prog 74 [1,1,1,1])] (mkJ 0 [(8,.dat o),(19,.dat l),(20,.int .i64 (l.len : Int)),(21,.int .i64 j)] 0 46)) [] []
section
variable (o l im : D) (j : Int)
theorem apl_go : 
 let z1 := (WtD.mk (D.getInt l (Int.toNat j) 0) (D.getInt l (Int.toNat j) 1) (D.cell l (Int.toNat j) 2))
 let z2 : List SV := [.int .i64 (D.getInt l (Int.toNat j) 0),.int .i64 (D.getInt l (Int.toNat j) 1),.dat (D.cell l (Int.toNat j) 2)]
 let z3 := (D.len (D.cell o (Int.toNat (D.getInt l (Int.toNat j) 0)) 0))
 goM Try.prog ctAp [] [(74,MidK.copy)] 300 (unroll (apL o l j)) =
 Tree.br (decide (j < (↑(D.len l) : Int))) (.need (0 ≤ j ∧ j < (↑(D.len l) : Int) ∧ D.sz l = 3) (.need (D.HasCells l (Int.toNat j) 0 [FT.int .i64,FT.int .i64,FT.slc]) (.need (ImgOk o ∧ WtD.Ok z1) (.br
 (fitsErr (volSizes (D.to Vol o)) (WtD.wt z1) != 0) (.ret (SV.tup [.nils,.int .i64 j,.int .i64 (fitsErr (volSizes (D.to Vol o)) (WtD.wt z1))])) (.all fun hs=>.need (0 ≤ D.getInt l (Int.toNat j) 0 ∧ D.getInt l
 (Int.toNat j) 0 < (↑(D.len o) : Int) ∧ D.sz o = 1) (.need (D.HasCell o (Int.toNat (D.getInt l (Int.toNat j) 0)) 0 FT.slc) (.need (0 ≤ D.getInt l (Int.toNat j) 1 ∧ D.getInt l (Int.toNat j) 1 ≤ (↑z3 : Int) ∧
 (↑z3 : Int) ≤ (↑z3 : Int) ∧ D.Fits (D.cell o (Int.toNat (D.getInt l (Int.toNat j) 0)) 0) 8) (.leaf (Conf.mk (SFrm.mk 74 (some (opsAt Try.prog 74 [1,1,1,0,1,0,0,1,1,0,0,1,1],[10])) none [Item.inBlock 1,Item.code
 (cAt Try.prog 74 [1,1,1,0,1,0,0,1,1,1]),Item.inLoop (cAt Try.prog 74 [1,1,1,0,1,0,0]),Item.inBlock 0,Item.code (cAt Try.prog 74 [1,1,1,1])] (mkJ 0 [(8,.dat o),(9,.int .i64 j),(10,.ptr 1010 0),
 (11,.int .i64 (fitsErr (volSizes (D.to Vol o)) (WtD.wt z1))),(19,.dat l),(20,.int .i64 (↑(D.len l) : Int)),(21,.int .i64 j),(22,.bool (decide (j < (↑(D.len l) : Int)))),(23,.int .i64 j),(24,SV.elt l
 (Int.toNat j) 0),(25,.agg z2),(26,.dat o),(27,.agg z2),(28,.int .i64 (fitsErr (volSizes (D.to Vol o)) (WtD.wt z1))),(29,.int .i64 (fitsErr (volSizes (D.to Vol o)) (WtD.wt z1))),(30,.bool (fitsErr
 (volSizes (D.to Vol o)) (WtD.wt z1) != 0)),(33,.dat o),(34,.ptr 1010 0),(35,.int .i64 (D.getInt l (Int.toNat j) 0)),(36,SV.elt o (Int.toNat (D.getInt l (Int.toNat j) 0)) 0),(37,.dat (D.cell o
 (Int.toNat (D.getInt l (Int.toNat j) 0)) 0)),(38,.ptr 1010 1),(39,.int .i64 (D.getInt l (Int.toNat j) 1)),(40,.dat (D.sub (D.cell o (Int.toNat (D.getInt l (Int.toNat j) 0)) 0) (Int.toNat (D.getInt l
 (Int.toNat j) 1)) (Int.toNat (↑z3 : Int)))),(41,.ptr 1010 2),(42,.dat (D.cell l (Int.toNat j) 2))] 0 46)) [] [(1010,OBlk.cells 31 z2)]))))))))) (.ret (SV.tup [.dat o,.int .i64 0,.int .i64 0])) := by
 intros; kernel_rfl

theorem apc_in : goM Try.prog ctAp [(102,0),(102,1),(102,2),(102,3)] [] 300 (entry Try.prog 74 [.dat im,.dat l]) =
 Tree.need (D.Is Vol im ∧ D.len im ≤ 1048576)
 (.br (sizesErr (volSizes (D.to Vol im)) != 0)
 (.ret (SV.tup [.nils,.int .i64 0,.int .i64 (sizesErr (volSizes (D.to Vol im)))]))
 (.leaf
 (Conf.mk
 (SFrm.mk 102 none none [Item.code (cAt Try.prog 102 [0]),Item.code (cAt Try.prog 102 [1])]
 (mkJ 1 [(0,.dat im)] 0 5))
 [SFrm.mk 74 (some (opsAt Try.prog 74 [1,1,0],[2])) (some 18) [Item.code (cAt Try.prog 74 [1,1,1])]
 (mkJ 0 [(1,.dat l)] 0 46)]
 []))) := by kernel_rfl

end
end Go.Proofs.Ytodhhmjilnfecaa
end
section
open Go Go.Proofs Sx
namespace Go.Proofs.Ytodhhmjilnfecaa
set_option maxRecDepth 100000
set_option maxHeartbeats 0
noncomputable def mcB (im d : D) (o : SV) (j : Int) : Conf := Conf.mk (SFrm.mk 111 (some (opsAt Try.prog 111 [1,1,0,1,0,0,1,1,0,0,1],[4,5,6])) none [Item.inBlock 1,Item.code (cAt Try.prog 111 [1,1,0,1,0,0,1,1,1]),Item.inLoop (cAt Try.prog 111 [1,1,0,1,0,0]),Item.inBlock 0,Item.code (cAt Try.prog 111 [1,1,1])] (mkJ 0 [(1,SV.fn 81 [] []),(11,.dat im),(12,.int .i64 (im.len : Int)),(13,.int .i64 j),(17,o),(20,.dat d)] 0 25)) [] []
section
variable (im d : D) (j : Int) (o : Value)
theorem mcb_go : goM Try.prog [] [] [(111,MidK.append)] 300 (mcB im d (.raw o) j) =
 Tree.all fun hs =>
 .leaf
 (Conf.mk
 (SFrm.mk 111 (some (opsAt Try.prog 111 [1,1,0,1,0,0,1,1,0,0,1],[5,6])) none
 [Item.inBlock 1,Item.code (cAt Try.prog 111 [1,1,0,1,0,0,1,1,1]),
 Item.inLoop (cAt Try.prog 111 [1,1,0,1,0,0]),Item.inBlock 0,Item.code (cAt Try.prog 111 [1,1,1])]
 (mkJ 0
 [(1,SV.fn 81 [] []),(11,.dat im),(12,.int .i64 (↑(D.len im) : Int)),
 (13,.int .i64 j),(17,SV.raw o),(20,.dat d),(21,.vec 1021)]
 0 25))
 [] [(1021,OBlk.arr 29 (D.slc (D.hd (hs 0 0)) 1 [[d]]))]) := by kernel_rfl

end
end Go.Proofs.Ytodhhmjilnfecaa
end
section
open Go Go.Proofs Sx
namespace Go.Proofs.Ytodhhmjilnfecaa
set_option maxRecDepth 100000
set_option maxHeartbeats 0
noncomputable def mcC (im : D) (o : SV) (j : Int) : Conf := Conf.mk (SFrm.mk 111 (some (opsAt Try.prog 111 [1,1,0,1,0,0,1,1,0,0,1],[6])) none [Item.inBlock 1,Item.code (cAt Try.prog 111 [1,1,0,1,0,0,1,1,1]),Item.inLoop (cAt Try.prog 111 [1,1,0,1,0,0]),Item.inBlock 0,Item.code (cAt Try.prog 111 [1,1,1])] (mkJ 0 [(1,SV.fn 81 [] []),(11,.dat im),(12,.int .i64 (im.len : Int)),(13,.int .i64 j),(22,o)] 0 25)) [] []
section
variable (im d : D) (j : Int) (o : Value)
theorem mcc_go : goM Try.prog [] [] [] 300 (mcC im (.raw o) j) =
 Tree.leaf
 (Conf.mk
 (SFrm.mk 111 none none
 [Item.inLoop (cAt Try.prog 111 [1,1,0,1,0,0]),Item.inBlock 0,Item.code (cAt Try.prog 111 [1,1,1])]
 (mkJ 0
 [(1,SV.fn 81 [] []),(5,SV.raw o),(11,.dat im),(12,.int .i64 (↑(D.len im) : Int)),
 (13,.int .i64 (IntKind.wrap .i64 (j + 1)))]
 0 25))
 [] []) := by kernel_rfl

end
end Go.Proofs.Ytodhhmjilnfecaa
end
section
open Go Go.Proofs Sx
namespace Go.Proofs.Ytodhhmjilnfecaa
set_option maxRecDepth 100000
set_option maxHeartbeats 0
noncomputable def cpA (im : D) : Conf := Conf.mk (SFrm.mk 102 none none [Item.code (cAt Try.prog 102 [0]),Item.code (cAt Try.prog 102 [1])] (mkJ 0 [(0,.dat im)] 0 5)) [] []
noncomputable def cpB (o : SV) : Conf := Conf.mk (SFrm.mk 102 (some (opsAt Try.prog 102 [1,0],[2])) none [Item.code (cAt Try.prog 102 [1,1])] (mkJ 0 [(4,o)] 0 5)) [] []
noncomputable def apE (o l : D) : Conf := Conf.mk (SFrm.mk 74 (some (opsAt Try.prog 74 [1,1,0],[2])) none [Item.code (cAt Try.prog 74 [1,1,1])] (mkJ 0 [(1,.dat l),(18,.dat o)] 0 46)) [] []
section
variable (im o l : D) (j : Int) (v : Value)
theorem cpa_go : goM Try.prog [] [] [] 300 (cpA im) =
 Tree.need
 ((0 : Int) ≤ 0 ∧
 0 ≤ (↑(D.len im) : Int) ∧
 (↑24 : Int) * (↑(D.len im) : Int) ≤ 281474976710656 ∧ (↑(D.len im) : Int) ≤ 9223372036854775807)
 (.all fun hs =>
 .leaf
 (Conf.mk
 (SFrm.mk 111 none none
 [Item.inLoop (cAt Try.prog 111 [1,1,0,1,0,0]),Item.inBlock 0,Item.code (cAt Try.prog 111 [1,1,1])]
 (mkJ 1
 [(1,SV.fn 81 [] []),(5,.vec 0),(11,.dat im),(12,.int .i64 (↑(D.len im) : Int)),
 (13,.int .i64 0)]
 0 25))
 [SFrm.mk 102 (some (opsAt Try.prog 102 [1,0],[2])) (some 4) [Item.code (cAt Try.prog 102 [1,1])]
 (mkJ 0 [(0,.dat im),(2,.nils),(3,.dat im)] 0 5)]
 [(0,OBlk.arr 29 (D.slc (D.hd (hs 0 0)) 1 (List.replicate 0 [D.slc none 0 []])))])) := by kernel_rfl

theorem cpb_go : goM Try.prog [] [] [] 300 (cpB (.raw v)) =
 Tree.ret (SV.raw v) := by kernel_rfl

theorem ape_go : goM Try.prog [] [] [] 300 (apE o l) =
 Tree.leaf
 (Conf.mk
 (SFrm.mk 74 none none
 [Item.inLoop (cAt Try.prog 74 [1,1,1,0,1,0,0]),Item.inBlock 0,Item.code (cAt Try.prog 74 [1,1,1,1])]
 (mkJ 0 [(8,.dat o),(19,.dat l),(20,.int .i64 (↑(D.len l) : Int)),(21,.int .i64 0)] 0
 46))
 [] []) := by kernel_rfl

end
end Go.Proofs.Ytodhhmjilnfecaa
end
section
open Go Go.Proofs Sx
namespace Go.Proofs.Ytodhhmjilnfecaa
set_option maxRecDepth 100000
set_option maxHeartbeats 0
noncomputable def apB (o l : D) (j : Int) : Conf := Conf.mk (SFrm.mk 74 (some (opsAt Try.prog 74 [1,1,1,0,1,0,0,1,1,0,0,1,1],[])) none [Item.inBlock 1,Item.code (cAt Try.prog 74 [1,1,1,0,1,0,0,1,1,1]),Item.inLoop (cAt Try.prog 74 [1,1,1,0,1,0,0]),Item.inBlock 0,Item.code (cAt Try.prog 74 [1,1,1,1])] (mkJ 0 [(8,.dat o),(19,.dat l),(20,.int .i64 (l.len : Int)),(21,.int .i64 j)] 0 46)) [] []
section
variable (o l : D) (j : Int)
theorem apb_go : goM Try.prog ctAp [] [] 300 (apB o l j) =
 Tree.leaf
 (Conf.mk
 (SFrm.mk 74 none none
 [Item.inLoop (cAt Try.prog 74 [1,1,1,0,1,0,0]),Item.inBlock 0,Item.code (cAt Try.prog 74 [1,1,1,1])]
 (mkJ 0
 [(8,.dat o),(19,.dat l),(20,.int .i64 (↑(D.len l) : Int)),
 (21,.int .i64 (IntKind.wrap .i64 (j + 1)))]
 0 46))
 [] []) := by kernel_rfl

end
end Go.Proofs.Ytodhhmjilnfecaa
end
section
open Go
namespace Sx
def putW (im : List Vol) (w : Wt) : List Vol :=
 im.set w.vol.toNat ⟨(im.getD w.vol.toNat ⟨[]⟩).l.take w.start.toNat ++ w.data ++ (im.getD w.vol.toNat ⟨[]⟩).l.drop (w.start.toNat + w.data.length)⟩
def applyV : Nat → List Wt → List Vol → List Vol × Int × Int
 | _,[],im=>(im,0,0)
 | i,w :: r,im=>if fitsErr (volSizes im) w ≠ 0 then ([],(i : Int),fitsErr (volSizes im) w) else applyV (i + 1) r (putW im w)
def applyI (im : List Vol) (l : List Wt) : List Vol × Int × Int := if sizesErr (volSizes im) ≠ 0 then ([],0,sizesErr (volSizes im)) else applyV 0 l im
noncomputable def spApplyI (x : D × D) : SpecR := .data [x.1.Is Vol ∧ x.1.len ≤ 1048576 ∧ x.2.Is Wt ∧ x.2.len ≤ 1048576 ∧ ∀ w,w ∈ x.2.to Wt → w.data.length ≤ 1048576] fun ds=>.tup [.dat ((ds 0).like (applyI (x.1.to Vol) (x.2.to Wt)).1),.int .i64 (applyI (x.1.to Vol) (x.2.to Wt)).2.1,.int .i64 (applyI (x.1.to Vol) (x.2.to Wt)).2.2]
theorem vs_len (im : List Vol) : (volSizes im).length = im.length := by simp [volSizes]
theorem vs_get (im : List Vol) {v : Nat} (h : v < im.length) : (volSizes im).getD v 0 = ((im.getD v ⟨[]⟩).l.length : Int) := by
 rw [List.getD_eq_getElem?_getD,List.getD_eq_getElem?_getD]
 simp [volSizes,h]
theorem fits_ok {im : List Vol} {w : Wt} (h : fitsErr (volSizes im) w = 0) : 0 ≤ w.vol ∧ w.vol.toNat < im.length ∧ w.data.length ≠ 0 ∧ 0 ≤ w.start ∧ w.start.toNat + w.data.length ≤ (im.getD w.vol.toNat ⟨[]⟩).l.length := by
 unfold fitsErr at h
 split at h
 ·exact absurd h (by decide)
 ·rename_i h1
  split at h
  ·exact absurd h (by decide)
  ·rename_i h2
   split at h
   ·exact absurd h (by decide)
   ·rename_i h3
    rw [vs_len] at h1
    have hv : w.vol.toNat < im.length := by omega
    rw [vs_get im hv] at h3
    exact ⟨by omega,hv,h2,by omega,by omega⟩
theorem putW_sizes {im : List Vol} {w : Wt} (h : fitsErr (volSizes im) w = 0) : volSizes (putW im w) = volSizes im := by
 obtain ⟨h1,h2,h3,h4,h5⟩ := fits_ok h
 unfold putW volSizes
 rw [List.map_set]
 have e : (((im.getD w.vol.toNat ⟨[]⟩).l.take w.start.toNat ++ w.data ++ (im.getD w.vol.toNat ⟨[]⟩).l.drop (w.start.toNat + w.data.length)).length : Int) = (im.map fun v=>(v.l.length : Int))[w.vol.toNat]'(by simpa using h2) := by
  have hg : im.getD w.vol.toNat ⟨[]⟩ = im[w.vol.toNat] := by rw [List.getD_eq_getElem?_getD,List.getElem?_eq_getElem h2]; rfl
  rw [hg] at h5 ⊢
  simp only [List.length_append,List.length_take,List.length_drop,List.getElem_map]
  omega
 simp only [e,List.set_getElem_self]
end Sx
end
section
open Go Go.Proofs Sx
namespace Go.Proofs.Ytodhhmjilnfecaa
set_option maxRecDepth 100000
set_option maxHeartbeats 0
theorem ctApOk : Ctrs.Ok Try.prog ctAp := by
 intro x hx
 rcases List.mem_cons.1 hx with rfl | hx
 ·exact ctrOf_ok lawChkI
 ·rw [List.mem_singleton.1 hx]; exact ctrOf_ok lawFits1
theorem cp_at : callAt (opsAt Try.prog 74 [1,1,1,0,1,0,0,1,1,0,0,1,1]) 10 = some (.copy,[.tmp 40,.tmp 42],[29,29],some 43) := by kernel_rfl
theorem sec_ty : Try.prog.underlying 29 = some (.slice 81) := by kernel_rfl
theorem sec_sz : (Try.prog.info? 81).map (·.size) = some 8 := by kernel_rfl
def applyR (w0 : World) (H0 : HV) (r : List Vol × Int × Int) : Value → World → Prop := RetD w0 H0 fun ds=>.tup [.dat ((ds 0).like r.1),.int .i64 r.2.1,.int .i64 r.2.2]
theorem ret_app {w0 w : World} {H0 H : HV} (a : After w0 H0 w H) {X : SV} {vs : List Vol} {k m : Int} (hx : Stands Vol X vs) : (Tree.ret (.tup [X,.int .i64 k,.int .i64 m])).holds Try.prog ⟨w,H⟩ (applyR w0 H0 (vs,k,m)) := by
 obtain ⟨d,k1,k2,k3,k4⟩ := hx
 refine ⟨rfl,fun E H' w' g hv=>⟨H',a.trans (after_good g),fun _=>d,fun E'=>?_,?_⟩⟩
 ·simp only [SV.den,SV.denL,k1,D.like_self k2 k3]
 ·simp only [SV.Ok,SV.OkL] at hv ⊢
  rw [D.like_self k2 k3]
  exact ⟨⟨k4 _ hv.1,k2.slc⟩,trivial,trivial,trivial⟩
theorem ap_loop {w0 : World} {H0 : HV} (hin0 : InMem H0 w0) {l : D} (hl : l.Ok H0) (li : l.Is Wt) (ll : l.len ≤ 1048576) (ld : ∀ w,w ∈ l.to Wt → w.data.length ≤ 1048576) :
  ∀ (k j : Nat) (o : D) (H : HV) (w : World),j ≤ (l.to Wt).length → (l.to Wt).length - j = k → After w0 H0 w H → ImgW w0.heap.size H w o → sizesErr (volSizes (o.to Vol)) = 0 →
   At Try.prog (apL o l j) H w (applyR w0 H0 (applyV j ((l.to Wt).drop j) (o.to Vol))) := by
 intro k
 induction k with
 | zero =>
  intro j o H w hj hk a hI hz
  have wl := D.Is.length (α := Wt) l
  refine at_of_runs rfl (unroll_sound rfl (goM_sound ctApOk [] [(74,MidK.copy)] 300 _ ?_))
  rw [apl_go]
  refine ⟨fun hc=>?_,fun hc=>?_⟩
  ·exfalso; have := of_decide_eq_true hc; omega
  ·rw [List.drop_eq_nil_of_le (by omega)]
   exact ret_app a (stands_dat hI.is rfl)
 | succ k ih =>
  intro j o H w hj hk a hI hz
  have wl := D.Is.length (α := Wt) l
  have ol := D.Is.length (α := Vol) o
  have hjl : j < (l.to Wt).length := by omega
  have hsz := sizes_len hz
  rw [vs_len] at hsz
  refine at_of_runs rfl (unroll_sound rfl (goM_sound ctApOk [] [(74,MidK.copy)] 300 _ ?_))
  rw [apl_go]
  have hdrop : (l.to Wt).drop j = (l.to Wt)[j] :: (l.to Wt).drop (j + 1) := List.drop_eq_getElem_cons hjl
  rw [hdrop]
  obtain ⟨c1,c2,c3⟩ := wt_cell li hjl
  have c2 : (D.cell l (Int.toNat (j : Int)) 2).Is Sec := c2
  have hdl := ld _ (List.getElem_mem hjl)
  have e0 : (WtD.mk (D.getInt l (Int.toNat (j : Int)) 0) (D.getInt l (Int.toNat (j : Int)) 1) (D.cell l (Int.toNat (j : Int)) 2)).wt = (l.to Wt)[j] := c3.symm
  have hdd : (D.cell l (Int.toNat (j : Int)) 2).len ≤ 1048576 := by
   rw [D.Is.length (α := Sec)]
   have := congrArg (fun w=>w.data.length) e0
   simp only [WtD.wt] at this
   rw [this]; exact hdl
  have hIm : ImgOk o := ⟨hI.is,by omega,fun v hv=>by
   have hm : (v.l.length : Int) ∈ volSizes (o.to Vol) := List.mem_map.2 ⟨v,hv,rfl⟩
   have := hsz.2 _ hm; omega⟩
  rw [e0]
  refine ⟨fun hc=>⟨⟨by omega,by omega,li.size hjl⟩,c1,⟨hIm,c2,hdd⟩,fun he=>?_,fun he hs0=>?_⟩,fun hc=>?_⟩
  ·have he : fitsErr (volSizes (o.to Vol)) (l.to Wt)[j] ≠ 0 := by simpa using he
   unfold applyV
   rw [if_pos he]
   exact ret_app a stands_nils
  ·have he : fitsErr (volSizes (o.to Vol)) (l.to Wt)[j] = 0 := by simpa using he
   obtain ⟨f1,f2,f3,f4,f5⟩ := fits_ok he
   have ev : D.getInt l (Int.toNat (j : Int)) 0 = ((l.to Wt)[j]).vol := by rw [← e0]; rfl
   have es : D.getInt l (Int.toNat (j : Int)) 1 = ((l.to Wt)[j]).start := by rw [← e0]; rfl
   have ed : (D.cell l (Int.toNat (j : Int)) 2).to Sec = ((l.to Wt)[j]).data := by rw [← e0]; rfl
   have hap : applyV j ((l.to Wt)[j] :: (l.to Wt).drop (j + 1)) (o.to Vol) = applyV (j + 1) ((l.to Wt).drop (j + 1)) (putW (o.to Vol) (l.to Wt)[j]) := by
    conv=>lhs; unfold applyV
    rw [if_neg (by simp [he])]
   rw [hap]
   have hps := putW_sizes he
   generalize hw : (l.to Wt)[j] = wr at *
   obtain ⟨V,hV⟩ := Int.eq_ofNat_of_zero_le f1
   obtain ⟨S,hS⟩ := Int.eq_ofNat_of_zero_le f4
   have hVl : V < o.len := by rw [hV] at f2; rw [ol]; simpa using f2
   obtain ⟨r1,r2,r3⟩ := vol_row hI.is hVl
   have hVg : (o.to Vol).getD V ⟨[]⟩ = ⟨(o.cell V 0).to Sec⟩ := by rw [List.getD_eq_getElem?_getD,r3]; rfl
   have il := D.Is.length (α := Sec) (o.cell V 0)
   have dl := D.Is.length (α := Sec) (D.cell l (Int.toNat (j : Int)) 2)
   rw [ed] at dl
   have f5 : S + wr.data.length ≤ (o.cell V 0).len := by
    rw [hV,hS] at f5
    simp only [Int.toNat_natCast] at f5
    rw [hVg] at f5
    rw [il]; exact f5
   rw [ev,es,hV,hS,Int.toNat_natCast V,Int.toNat_natCast S]
   obtain ⟨ci,hci⟩ := hI.hd V hVl
   refine ⟨⟨by omega,by omega,hI.sz⟩,?_,⟨by omega,by omega,by omega,r2.fits⟩,?_⟩
   ·obtain ⟨q1,q2,q3,q4,_⟩ := r2
    exact ⟨q1,q2,q3,by simp only [D.cellAt,r1,Option.bind_some,List.getElem?_cons_zero,← q4]⟩
   ·-- the copy
    generalize hwd : D.cell l (Int.toNat (j : Int)) 2 = wd at *
    intro E H1 w1 g1 ok1
    have a1 := after_good g1
    have hI1 := hI.mono a1
    have wdok : wd.Ok H1 := by rw [← hwd]; exact (cell_okd hl).mono (a.le.trans a1.le)
    obtain ⟨cur,t,hg⟩ := hI1.live V hVl
    have hrs := (rows_of c2).1
    have hsl : S + wd.rows.length ≤ (o.cell V 0).len := by
     have : wd.rows.length = wr.data.length := dl
     rw [this]; exact f5
    obtain ⟨H2,p1,p2,p3,p4,p5,p6⟩ := hI1.put hVl hrs hsl g1.cell hg rfl
    have h8 : ∀ r,r ∈ wd.rows → r.length = 8 := fun r hr=>(sec_plain hI1 hVl hrs hsl (hrs r hr)).1
    have hlen8 : (flat wd.rows).length = wd.rows.length * 8 := flat_len h8
    have hbn := hI1.low V hVl
    have ao : After w0 H0 (w1.setRow (blk o V) (cur.toList.take (S * 8) ++ flat wd.rows ++ cur.toList.drop (S * 8 + (flat wd.rows).length)).toArray) H2 := by
     have a01 := a.trans a1
     refine ⟨below_setRow a01.below hbn _,p3 H0 a01.le fun x=>?_,fun b x u hb=>?_,p1⟩
     ·cases hx : H0 (blk o V) x with
      | none=>rfl
      | some u =>
       have := hin0 _ _ _ hx
       have : blk o V < w0.heap.size := by
        unfold World.cell? at this
        simp only at this
        cases hh : w0.heap[blk o V]? with
        | none=>rw [hh] at this; cases this
        | some q=>exact (Array.getElem?_eq_some_iff.1 hh).1
       omega
     ·rcases p4 b x u hb with h | h
      ·exact a01.fresh b x u h
      ·exact .inr (by rw [h]; exact hbn)
    have hisz : (o.cell V 0).sz = 8 := r2.size (i := 0) (by rw [← il]; have : wd.rows.length = wr.data.length := dl; omega)
    have hcap : (o.cell V 0).len ≤ ci := by
     have hq : (o.cell V 0).Ok H := by
      have := cell_okd hI.ok (i := V) (j := 0)
      exact this
     revert hci
     generalize o.cell V 0 = q at hq
     intro hci
     cases hq with
     | slc a c sz rows hsp hc hlen hcell hk=>simp only [D.hd,Option.some.injEq,Prod.mk.injEq] at hci; rw [← hci.2]; exact hc
     | nil sz=>simp [D.hd] at hci
     | int _ _=>simp [D.hd] at hci
     | bool _=>simp [D.hd] at hci
     | str _=>simp [D.hd] at hci
    have hpos : 0 < wd.rows.length := by
     have : wd.rows.length = wr.data.length := dl
     omega
    have hsub : (D.sub (o.cell V 0) S (Int.toNat ((o.cell V 0).len : Int))).val = .slice (some ⟨blk o V,S * 8,none⟩) ((o.cell V 0).len - S) (ci - S) := by
     unfold D.sub
     rw [hci,hisz]
     simp only [D.val,Option.map_some,hval]
     have hne : ¬ci = S := by omega
     rw [if_neg hne,add_none rfl,Int.toNat_natCast,List.length_take,List.length_drop]
     have : (o.cell V 0).rows.length = (o.cell V 0).len := rfl
     rw [this,Nat.min_self,Nat.zero_add]
    obtain ⟨wh,wz,wrows,rfl,wz1,wz2⟩ := c2
    have hwne : wrows ≠ [] := fun e=>by rw [e] at hpos; simp [D.rows] at hpos
    have wz1 : wz = 8 := wz1.resolve_left hwne
    subst wz1
    have hreads := reads_data g1.cell wdok
    obtain ⟨q1,q2⟩ := hreads
    rcases q2 with ⟨_,q2⟩ | ⟨wa,wc,q2,q3⟩
    ·exact absurd q2 hwne
    have hmin : Nat.min wrows.length ((o.cell V 0).len - S) = wrows.length := Nat.min_eq_left (by
     have : (D.slc wh 8 wrows).rows.length = wrows.length := rfl
     omega)
    have e40 : ∀ E,(SV.dat (D.sub (o.cell V 0) S (Int.toNat ((o.cell V 0).len : Int)))).den E = .slice (some ⟨blk o V,S * 8,none⟩) ((o.cell V 0).len - S) (ci - S) := fun E=>by simp only [SV.den]; exact hsub
    have e42 : ∀ E,(SV.dat (D.slc wh 8 wrows)).den E = .slice (some wa) wrows.length wc := fun E=>by simp only [SV.den]; exact q2
    refine stk_builtin (u := goInt (Nat.min wrows.length ((o.cell V 0).len - S))) (w' := w1.setRow (blk o V) (cur.toList.take (S * 8) ++ flat wrows ++ cur.toList.drop (S * 8 + (flat wrows).length)).toArray) (E' := E) cp_at (fun ty=>?_) (fun _ _ _=>rfl) ?_
    ·have hrun' := run_copy_sz (P := Try.prog) w1 29 29 ty 81 (blk o V) (S * 8) ((o.cell V 0).len - S) (ci - S) wa wrows.length wc 8 cur t (flat wrows) sec_ty sec_sz hg (by rw [hmin]; exact hlen8) q3 p5 (flat_one _)
     show (builtin .copy _ ty #[] #[(SV.dat (D.sub (o.cell V 0) S (Int.toNat ((o.cell V 0).len : Int)))).den E,(SV.dat (D.slc wh 8 wrows)).den E]).run _ _ = _
     rw [e40,e42]
     simp only [builtin,Sem.run_bind,Result.andThen_ok,Sem.run_pure]
     rw [hrun']
     rfl
    ·have hpv : (o.putSec V S wrows).val = o.val := put_val hI1 hVl hrs hsl
     have hto : (o.putSec V S wrows).to Vol = (o.to Vol).set V ⟨((o.cell V 0).to Sec).take S ++ wrows.map Codec.dec ++ ((o.cell V 0).to Sec).drop (S + wrows.length)⟩ := put_to hI1 hVl hrs hsl
     have hput : (o.putSec V S wrows).to Vol = putW (o.to Vol) wr := by
      rw [hto]
      unfold putW
      rw [hV,hS,Int.toNat_natCast,Int.toNat_natCast,hVg,← ed]
      simp only [D.to,D.rows,List.length_map]
     refine stk_to (E := E) (sl := [(8,.dat (o.putSec V S wrows)),(19,.dat l),(20,.int .i64 (l.len : Int)),(21,.int .i64 (j : Int))]) (n := 46) rfl (fun p hp=>?_) (fun p hp=>?_) p1 (at_of_runs rfl (goM_sound ctApOk [] [] 300 _ ?_))
     ·simp only [List.mem_cons,List.not_mem_nil,or_false] at hp
      rcases hp with rfl | rfl | rfl | rfl
      ·simp only [SV.den]; rw [hpv]; rfl
      ·rfl
      ·rfl
      ·rfl
     ·simp only [List.mem_cons,List.not_mem_nil,or_false] at hp
      rcases hp with rfl | rfl | rfl | rfl
      ·exact ⟨p2.ok,p2.is.slc⟩
      ·exact ⟨hl.mono ao.le,li.slc⟩
      ·trivial
      ·trivial
     ·show (goM Try.prog ctAp [] [] 300 (apB (o.putSec V S wrows) l j)).holds _ _ _
      rw [apb_go,wrap_succ hjl (by omega)]
      intro E3 H3 w3 g3 ok3
      have a3 := after_good g3
      have := ih (j + 1) (o.putSec V S wrows) H3 w3 hjl (by omega) (ao.trans a3) (p2.mono a3) (by rw [hput,hps]; exact hz)
      rw [hput] at this
      exact this E3 ok3 g3.cell
  ·exfalso; have := of_decide_eq_false hc; omega
end Go.Proofs.Ytodhhmjilnfecaa
end
section
open Go Go.Proofs Sx
namespace Go.Proofs.Ytodhhmjilnfecaa
set_option maxRecDepth 100000
set_option maxHeartbeats 0
theorem mc_at : callAt (opsAt Try.prog 111 [1,1,0,1,0,0,1,1,0,0,1]) 5 = some (.append,[.tmp 17,.tmp 21],[73,73],some 22) := by kernel_rfl
theorem img_ty : Try.prog.underlying 73 = some (.slice 29) := by kernel_rfl
theorem sec_info : ∃ i z,Try.prog.info? 29 = some i ∧ i.zero = some z ∧ z.cells.size = i.size ∧ i.size = 1 ∧ i.bytes ≤ 1000 := by
 have h : ((Try.prog.info? 29).any fun i=>(i.zero.any fun z=>z.cells.size == i.size) && i.size == 1 && decide (i.bytes ≤ 1000)) = true := by kernel_rfl
 cases hi : Try.prog.info? 29 with
 | none=>rw [hi] at h; cases h
 | some i =>
  rw [hi] at h
  simp only [Option.any_some,Bool.and_eq_true,beq_iff_eq,decide_eq_true_eq] at h
  obtain ⟨⟨h1,h2⟩,h3⟩ := h
  cases hz : i.zero with
  | none=>rw [hz] at h1; cases h1
  | some z =>
   rw [hz] at h1
   simp only [Option.any_some,beq_iff_eq] at h1
   exact ⟨i,z,rfl,hz,h1,h2,h3⟩
theorem mc_loop {w0 : World} {H0 : HV} {im : D} (him : im.Is Vol) (hok : im.Ok H0) (hsz : ∀ v,v ∈ im.to Vol → 1 ≤ v.l.length ∧ v.l.length ≤ 1048576) (hlen : im.len ≤ 1048576) (hpos : 0 < im.len) :
  ∀ (k j : Nat) (ov : Value) (ds : List D) (H : HV) (w : World),j ≤ im.len → im.len - j = k → After w0 H0 w H → BuildI w0.heap.size H w 29 ov ds → ds.map (fun d=>Vol.mk (d.to Sec)) = (im.to Vol).take j →
   At Try.prog (mcL im (.raw ov) j) H w (CpR w0 H0 (im.to Vol)) := by
 intro k
 induction k with
 | zero =>
  intro j ov ds H w hj hk a b hto
  have il := D.Is.length (α := Vol) im
  refine at_of_runs rfl (unroll_sound rfl (goM_sound (noCtr _) [] [(111,MidK.build)] 300 _ ?_))
  rw [mc_in]
  refine ⟨fun hc=>?_,fun hc=>?_⟩
  ·exfalso; have := of_decide_eq_true hc; omega
  ·rw [List.take_of_length_le (by omega)] at hto
   refine ret_img a b (fun e=>?_) hto
   have := congrArg List.length hto
   rw [e] at this
   simp only [List.map_nil,List.length_nil] at this
   omega
 | succ k ih =>
  intro j ov ds H w hj hk a b hto
  have il := D.Is.length (α := Vol) im
  have hjl : j < im.len := by omega
  obtain ⟨r1,r2,r3⟩ := vol_row him hjl
  have hv : Vol.mk ((im.cell j 0).to Sec) ∈ im.to Vol := List.mem_of_getElem? r3
  have hvl := hsz _ hv
  have cl := D.Is.length (α := Sec) (im.cell j 0)
  have hcl : 1 ≤ (im.cell j 0).len ∧ (im.cell j 0).len ≤ 1048576 := by rw [cl]; exact hvl
  refine at_of_runs rfl (unroll_sound rfl (goM_sound (noCtr _) [] [(111,MidK.build)] 300 _ ?_))
  rw [mc_in]
  refine ⟨fun hc=>⟨⟨by omega,by omega,him.size (i := j) (by rw [← il]; exact hjl)⟩,?_,fun hn=>?_,fun hn=>?_⟩,fun hc=>?_⟩
  ·obtain ⟨q1,q2,q3,q4,_⟩ := r2
   rw [Int.toNat_natCast]
   exact ⟨q1,q2,q3,by simp only [D.cellAt,r1,Option.bind_some,List.getElem?_cons_zero,← q4]⟩
  ·exfalso
   have hq : (im.cell j 0).Ok H0 := cell_okd hok
   have hn : (im.cell (Int.toNat (j : Int)) 0).isNil = true := hn
   rw [Int.toNat_natCast] at hn
   revert hcl hn
   generalize im.cell j 0 = q at hq
   intro hcl hn
   cases hq with
   | slc a c sz rows hsp hc hlen hcell hk=>cases hn
   | nil sz=>simp [D.len,D.rows] at hcl
   | int _ _=>simp [D.len,D.rows] at hcl
   | bool _=>simp [D.len,D.rows] at hcl
   | str _=>simp [D.len,D.rows] at hcl
  ·intro hs
   rw [Int.toNat_natCast]
   refine ⟨⟨rfl,r2.fits,?_,?_⟩,fun hs1=>?_⟩
   ·show (0 + (im.cell j 0).len) * 8 ≤ _; omega
   ·show 0 + (im.cell j 0).len ≤ _; omega
   ·intro E1 H1 w1 g1 ok1
    obtain ⟨H2,a2,_,hin2,hden⟩ := pub_inner g1 (k := 2007) (d := D.slc (D.hd (hs1 0 0)) 8 (List.append (D.rows (D.slc (D.hd (hs 0 0)) 8 [])) (D.rows (D.cell im j 0)))) rfl (is_rows rfl fun r hr=>(rows_of r2).1 r hr) (fun e=>by
     have : (im.cell j 0).len = 0 := congrArg List.length (show (im.cell j 0).rows = [] from e)
     omega)
    generalize hd : D.slc (D.hd (hs1 0 0)) 8 (List.append (D.rows (D.slc (D.hd (hs 0 0)) 8 [])) (D.rows (D.cell im j 0))) = d at *
    have hdto : d.to Sec = (im.cell j 0).to Sec := by rw [← hd]; rfl
    have a02 := a.trans a2
    have b2 := b.mono a2
    have hin0 := hin2.low (n' := w0.heap.size) a.below.size
    refine stk_to (E := E1) (sl := [(1,.fn 81 [] []),(11,.dat im),(12,.int .i64 (im.len : Int)),(13,.int .i64 j),(17,.raw ov),(20,.dat d)]) (n := 25) rfl (fun p hp=>?_) (fun p hp=>?_) a2.cell (at_of_runs rfl (goM_sound (noCtr _) [] [(111,MidK.append)] 300 _ ?_))
    ·simp only [List.mem_cons,List.not_mem_nil,or_false] at hp
     rcases hp with rfl | rfl | rfl | rfl | rfl | rfl
     ·rfl
     ·rfl
     ·rfl
     ·rfl
     ·rfl
     ·simp only [SV.den]; rw [← hden]; rfl
    ·simp only [List.mem_cons,List.not_mem_nil,or_false] at hp
     rcases hp with rfl | rfl | rfl | rfl | rfl | rfl
     ·exact ⟨trivial,trivial⟩
     ·exact ⟨hok.mono a02.le,him.slc⟩
     ·trivial
     ·trivial
     ·trivial
     ·exact ⟨hin2.2.1,hin2.1.slc⟩
    ·show (goM Try.prog [] [] [(111,MidK.append)] 300 (mcB im d (.raw ov) j)).holds _ _ _
     rw [mcb_go]
     intro hs2 E3 H3 w3 g3 ok3
     obtain ⟨i,z,q1,q2,q3,q4,q5⟩ := sec_info
     have hdl : ds.length = j := by
      have := congrArg List.length hto
      rw [List.length_map,List.length_take] at this
      omega
     obtain ⟨w4,ov',hrun,a4,b4⟩ := build_append (P := Try.prog) (ty := 73) (k := 1021) (hh := D.hd (hs2 0 0)) (d := d) img_ty q1 q2 q3 q4 q5 a02 b2 hin0 (innerOk.fresh hin2 b) g3 rfl (by omega) (key := 7777) rfl
     refine stk_builtin (u := ov') (w' := w4) (E' := E3) mc_at (fun ty=>?_) (fun _ _ _=>rfl) ?_
     ·have := hrun
      show (builtin .append _ ty #[] #[(SV.raw ov).den E3,(SV.vec 1021).den E3]).run _ _ = _
      simp only [builtin,Sem.run_bind,Result.andThen_ok,Sem.run_pure]
      show Result.andThen (Sem.run Try.prog (Builtin.append_ #[73,73] 73 #[ov,(SV.vec 1021).den E3]) w3) _ = _
      rw [this]
      rfl
     ·refine stk_to (E := E3) (sl := [(1,.fn 81 [] []),(11,.dat im),(12,.int .i64 (im.len : Int)),(13,.int .i64 j),(22,.raw ov')]) (n := 25) rfl (fun p hp=>?_) (fun p hp=>?_) a4.cell (at_of_runs rfl (goM_sound (noCtr _) [] [] 300 _ ?_))
      ·simp only [List.mem_cons,List.not_mem_nil,or_false] at hp
       rcases hp with rfl | rfl | rfl | rfl | rfl <;> rfl
      ·simp only [List.mem_cons,List.not_mem_nil,or_false] at hp
       rcases hp with rfl | rfl | rfl | rfl | rfl
       ·exact ⟨trivial,trivial⟩
       ·exact ⟨hok.mono a4.le,him.slc⟩
       ·trivial
       ·trivial
       ·trivial
      ·show (goM Try.prog [] [] [] 300 (mcC im (.raw ov') j)).holds _ _ _
       rw [mcc_go,wrap_succ hjl (by omega)]
       intro E5 H5 w5 g5 ok5
       have a5 := after_good g5
       refine ih (j + 1) ov' (ds ++ [d]) H5 w5 hjl (by omega) (a4.trans a5) (b4.mono a5) ?_ E5 ok5 g5.cell
       rw [List.map_append,hto,List.take_add_one,r3]
       simp only [List.map_cons,List.map_nil,hdto,Option.toList_some]
  ·exfalso; have := of_decide_eq_false hc; omega
theorem cp_all {H : HV} {w : World} {im : D} (hin : InMem H w) (him : im.Is Vol) (hok : im.Ok H) (hsz : ∀ v,v ∈ im.to Vol → 1 ≤ v.l.length ∧ v.l.length ≤ 1048576) (hlen : im.len ≤ 1048576) (hpos : 0 < im.len) :
  At Try.prog (cpA im) H w (CpR w H (im.to Vol)) := by
 refine at_of_runs rfl (goM_sound (noCtr _) [] [] 300 _ ?_)
 rw [cpa_go]
 refine ⟨⟨by omega,by omega,by omega,by omega⟩,fun hs=>?_⟩
 intro E1 H1 w1 g1 ok1
 have a1 := after_good g1
 have b1 : BuildI w.heap.size H1 w1 29 ((SV.vec 0).den E1) [] := buildI_own g1 (hh := D.hd (hs 0 0)) rfl
 generalize hov : (SV.vec 0).den E1 = ov at b1
 refine stk_call (E := E1) (sl := [(1,.fn 81 [] []),(5,.raw ov),(11,.dat im),(12,.int .i64 (im.len : Int)),(13,.int .i64 0)]) (n := 25) rfl (fun p hp=>?_) (fun p hp=>?_) a1.cell (R1 := CpR w H (im.to Vol)) ?_ ?_
 ·simp only [List.mem_cons,List.not_mem_nil,or_false] at hp
  rcases hp with rfl | rfl | rfl | rfl | rfl
  ·rfl
  ·simp only [SV.den]; rw [← hov]; rfl
  ·rfl
  ·rfl
  ·rfl
 ·simp only [List.mem_cons,List.not_mem_nil,or_false] at hp
  rcases hp with rfl | rfl | rfl | rfl | rfl
  ·exact ⟨trivial,trivial⟩
  ·trivial
  ·exact ⟨hok.mono a1.le,him.slc⟩
  ·trivial
  ·trivial
 ·exact mc_loop him hok hsz hlen hpos im.len 0 ov [] H1 w1 (Nat.zero_le _) (by omega) a1 b1 rfl
 ·intro u w2 ⟨H2,o,a2,hI,hu,hto⟩
  refine stk_aw (aw := none) (stk_to (E := E1) (sl := [(4,.raw o.val)]) (n := 5) rfl (fun p hp=>?_) (fun p hp=>?_) a2.cell (at_of_runs rfl (goM_sound (noCtr _) [] [] 300 _ ?_)))
  ·rw [List.mem_singleton.1 hp,← hu]; rfl
  ·rw [List.mem_singleton.1 hp]; trivial
  ·show (goM Try.prog [] [] [] 300 (cpB (.raw o.val))).holds _ _ _
   rw [cpb_go]
   exact ⟨rfl,fun E H' w' g hv=>⟨H',o,a2.trans (after_good g),hI.mono (after_good g),rfl,hto⟩⟩
theorem lawApply : Law Try.prog 74 ((rdD.two rdD).sp spApplyI) := by
 refine law_in _ (by kernel_rfl) fun H w b hok hp=>?_
 obtain ⟨im,l⟩ := b
 obtain ⟨p1,p2,p3,p4,p5⟩ := hp _ (List.mem_singleton.2 rfl)
 apply goM_sound ctApOk [(102,0),(102,1),(102,2),(102,3)] [] 300
 rw [show (rdD.two rdD).canon (im,l) = [.dat im,.dat l] from rfl,apc_in]
 have p2 : im.len ≤ 1048576 := p2
 have il := D.Is.length (α := Vol) im
 refine ⟨⟨p1,p2⟩,fun hc=>?_,fun hc=>?_⟩
 ·have hc : sizesErr (volSizes (im.to Vol)) ≠ 0 := by simpa using hc
  obtain ⟨d,k1,k2,k3,k4⟩ := stands_nils (α := Vol)
  refine ⟨rfl,fun E H' w' g hv=>⟨H',after_good g,fun _=>d,fun E'=>?_,?_⟩⟩
  ·simp only [applyI,if_pos hc,SV.den,SV.denL,D.like_self k2 k3]
   rw [← k1 E]; rfl
  ·simp only [SV.Ok,SV.OkL] at hv ⊢
   simp only [applyI,if_pos hc]
   rw [D.like_self k2 k3]
   exact ⟨⟨k4 _ hv.1,k2.slc⟩,trivial,trivial,trivial⟩
 ·have hc : sizesErr (volSizes (im.to Vol)) = 0 := by simpa using hc
  have hsz := sizes_len hc
  rw [vs_len] at hsz
  have hpos : 0 < im.len := by
   rw [il]
   cases hl : im.to Vol with
   | nil=>rw [hl] at hc; exact absurd hc (by decide)
   | cons x r=>exact Nat.succ_pos _
  intro E1 H1 w1 g1 ok1
  have a1 := after_good g1
  have him : im.Ok H1 := hok.1.1.mono a1.le
  have hl : l.Ok H1 := hok.2.1.1.mono a1.le
  refine stk_call (E := E1) (sl := [(0,.dat im)]) (n := 5) rfl (fun p hp=>?_) (fun p hp=>?_) g1.cell (R1 := CpR w1 H1 (im.to Vol)) ?_ ?_
  ·rw [List.mem_singleton.1 hp]; rfl
  ·rw [List.mem_singleton.1 hp]; exact ⟨him,p1.slc⟩
  ·exact cp_all g1.cell p1 him (fun v hv=>by
    have hm : (v.l.length : Int) ∈ volSizes (im.to Vol) := List.mem_map.2 ⟨v,hv,rfl⟩
    have := hsz.2 _ hm; omega) p2 hpos
  ·intro u w2 ⟨H2,o,a2,hI,hu,hto⟩
   have hE : At Try.prog (apE o l) H2 w2 (applyR w1 H1 (applyV 0 (l.to Wt) (im.to Vol))) := by
    refine at_of_runs rfl (goM_sound (noCtr _) [] [] 300 _ ?_)
    rw [ape_go]
    intro E4 H4 w4 g4 ok4
    have a4 := after_good g4
    have := ap_loop g1.cell hl p3 p4 p5 (l.to Wt).length 0 o H4 w4 (Nat.zero_le _) (by omega) (a2.trans a4) (hI.mono a4) (by rw [hto]; exact hc)
    rw [List.drop_zero,hto] at this
    exact stk_aw (this E4 ok4 g4.cell)
   refine StkRun.mono (R := applyR w1 H1 (applyV 0 (l.to Wt) (im.to Vol))) ?_ ?_
   ·intro u' w3 ⟨H3,a3,ds,hu3,hok3⟩
    refine ⟨H3,a1.trans a3,ds,fun E=>?_,?_⟩
    ·unfold applyI
     rw [if_neg (by simp [hc])]
     exact hu3 E
    ·unfold applyI
     rw [if_neg (by simp [hc])]
     exact hok3
   ·refine stk_aw (aw := none) ?_
    refine stk_to (E := E1) (sl := [(1,.dat l),(18,.dat o)]) (n := 46) rfl (fun p hp=>?_) (fun p hp=>?_) a2.cell hE
    ·simp only [List.mem_cons,List.not_mem_nil,or_false] at hp
     rcases hp with rfl | rfl
     ·rfl
     ·simp only [SV.den]; rw [← hu]; rfl
    ·simp only [List.mem_cons,List.not_mem_nil,or_false] at hp
     rcases hp with rfl | rfl
     ·exact ⟨hl.mono a2.le,p3.slc⟩
     ·exact ⟨hI.ok,hI.is.slc⟩
end Go.Proofs.Ytodhhmjilnfecaa
end
section
open Go Go.Proofs Sx
namespace Go.Proofs.Ytodhhmjilnfecaa
set_option maxRecDepth 100000
set_option maxHeartbeats 0
noncomputable def ctIm : Ctrs := (72,ctrOf (rdD.one.sp spNewI)) :: (74,ctrOf ((rdD.two rdD).sp spApplyI)) :: ctN
section
variable (ha hb hc a : D)
theorem him_in : execQ Try.prog ctIm 400 (entry Try.prog 37 [.agg [.dat ha,.dat hb,.dat hc],.dat a]) =
 Tree.need (HiD.Right (HiD.mk ha hb hc))
 (.all fun hs =>
 .br (Prod.fst (checkH (HiD.hist (HiD.mk ha hb hc))) != 0)
 (.ret (SV.tup [.nils,.int .i64 (Prod.fst (checkH (HiD.hist (HiD.mk ha hb hc))))]))
 (.need (D.Is Int a ∧ D.len a ≤ 1048576 ∧ D.Is Wt (onOk (Prod.fst (checkH (HiD.hist (HiD.mk ha hb hc)))) hb))
 (.br
 (!setH (D.to Int a)
 (↑(List.length (D.to Wt (onOk (Prod.fst (checkH (HiD.hist (HiD.mk ha hb hc)))) hb))) : Int))
 (.ret (SV.tup [.nils,.int .i64 2]))
 (.need (D.Is Int ha ∧ D.len ha ≤ 1048576)
 (.all fun hs_1 =>
 .leaf
 (Conf.mk
 (SFrm.mk 37 none none
 [Item.code (cAt Try.prog 37 [1,1,1,1,1,1,0,1,0]),Item.inBlock 0,
 Item.code (cAt Try.prog 37 [1,1,1,1,1,1,1])]
 (mkU
 [(0,SV.junk 0),(1,SV.junk 1),(2,SV.junk 2),(3,SV.junk 3),(4,SV.junk 4),(5,SV.junk 5),
 (6,SV.junk 6),(7,SV.junk 7),(8,.dat (D.like (hs_1 0 0) (imgOf (D.to Int ha)))),
 (9,SV.junk 9),(10,.ptr 0 0),(11,SV.junk 11),(13,SV.junk 13),(14,SV.junk 14),
 (15,SV.junk 15),(16,SV.junk 16),(17,SV.junk 17),(18,SV.junk 18),(19,SV.junk 19),
 (20,SV.junk 20),(21,SV.junk 21),(22,SV.junk 22),(23,SV.junk 23),(24,SV.junk 24),
 (25,SV.junk 25),(26,SV.junk 26),(27,SV.junk 27),(28,SV.junk 28),(29,SV.junk 29),
 (30,SV.junk 30),(31,SV.junk 31),(32,SV.junk 32),(33,SV.junk 33),(34,SV.junk 34),
 (35,SV.fn 100 [] [.ptr 1 0,.ptr 2 0]),(36,SV.junk 36),(42,SV.junk 42),
 (43,SV.junk 43),(44,SV.junk 44),(45,SV.junk 45),(46,SV.junk 46),(47,SV.junk 47),
 (48,SV.junk 48),(49,SV.junk 49),(50,SV.junk 50)]
 0 51))
 []
 [(0,OBlk.cells 23 [.nils]),(1,OBlk.cells 22 [.dat a]),
 (2,
 OBlk.cells 121
 [.dat (onOk (Prod.fst (checkH (HiD.hist (HiD.mk ha hb hc)))) ha),
 .dat (onOk (Prod.fst (checkH (HiD.hist (HiD.mk ha hb hc)))) hb),
 .dat (onOk (Prod.fst (checkH (HiD.hist (HiD.mk ha hb hc)))) hc),
 .dat (D.like (hs 0 0) (Tl.issued (Prod.snd (checkH (HiD.hist (HiD.mk ha hb hc)))))),
 .dat (D.like (hs 0 1) (Tl.acked (Prod.snd (checkH (HiD.hist (HiD.mk ha hb hc))))))])])))))) := by kernel_rfl

end
end Go.Proofs.Ytodhhmjilnfecaa
end
section
open Go Go.Proofs Sx
namespace Go.Proofs.Ytodhhmjilnfecaa
set_option maxRecDepth 100000
set_option maxHeartbeats 0
noncomputable def hiK : List Item := [Item.inBlock 0,Item.code (cAt Try.prog 37 [1,1,1,1,1,1,1])]
noncomputable def hiT (a im : D) : List SV := mkU [(0,SV.junk 0),(1,SV.junk 1),(2,SV.junk 2),(3,SV.junk 3),(4,SV.junk 4),(5,SV.junk 5),(6,SV.junk 6),(7,SV.junk 7),(8,.dat im),(9,SV.junk 9),(10,.ptr 100002 0),(11,SV.junk 11),(13,SV.junk 13),(14,SV.junk 14),(15,SV.junk 15),(16,SV.junk 16),(17,SV.junk 17),(18,SV.junk 18),(19,SV.junk 19),(20,SV.junk 20),(21,SV.junk 21),(22,SV.junk 22),(23,SV.junk 23),(24,SV.junk 24),(25,SV.junk 25),(26,SV.junk 26),(27,SV.junk 27),(28,SV.junk 28),(29,SV.junk 29),(30,SV.junk 30),(31,SV.junk 31),(32,SV.junk 32),(33,SV.junk 33),(34,SV.junk 34),(35,SV.fn 100 [] [.ptr 100003 0,.ptr 100004 0]),(36,SV.junk 36),(42,SV.junk 42),(43,SV.junk 43),(44,SV.junk 44),(45,SV.junk 45),(46,SV.junk 46),(47,SV.junk 47),(48,SV.junk 48),(49,SV.junk 49),(50,SV.junk 50)] 0 51
noncomputable def hiM (ha hb hc i o a q : D) : Mem := (100003,OBlk.cells 22 [.dat a]) :: (100004,OBlk.cells 121 [.dat ha,.dat hb,.dat hc,.dat i,.dat o]) :: [(100002,OBlk.cells 23 [.vec 9]),(9,OBlk.arr 31 q)]
noncomputable def hiN (ha hb hc i o a q : D) (z : Int) : Mem := (1012,OBlk.cells 31 [.int .i64 (hb.getInt (Int.toNat z) 0),.int .i64 (hb.getInt (Int.toNat z) 1),.dat (hb.cell (Int.toNat z) 2)]) :: hiM ha hb hc i o a q
noncomputable def hiR (hb a im : D) (z : Int) : List SV := ((hiT a im).set 36 (.int .i64 z)).set 37 (wvH hb z)
theorem hiF1 : cAt Try.prog 37 [1,1,1,1,1,1,0,1,0] = .rangeFunc (.tmp 35) #[36,37] (cAt Try.prog 37 [1,1,1,1,1,1,0,1,0,0]) (cAt Try.prog 37 [1,1,1,1,1,1,0,1,0,1]) := by kernel_rfl
section
variable (ha hb hc i o a q im : D) (z : Int)
theorem hia_go : execP Try.prog [] 100 ⟨⟨37,none,none,[.code (cAt Try.prog 37 [1,1,1,1,1,1,0,1,0,0])],hiR hb a im z⟩,[],hiM ha hb hc i o a q⟩ =
 Tree.leaf
 (Conf.mk
 (SFrm.mk 37 none none []
 (mkU
 [(0,SV.junk 0),(1,SV.junk 1),(2,SV.junk 2),(3,SV.junk 3),(4,SV.junk 4),(5,SV.junk 5),(6,SV.junk 6),
 (7,SV.junk 7),(8,.dat im),(9,SV.junk 9),(10,.ptr 100002 0),(11,SV.junk 11),(12,.ptr 1012 0),
 (13,SV.junk 13),(14,SV.junk 14),(15,SV.junk 15),(16,SV.junk 16),(17,SV.junk 17),(18,SV.junk 18),
 (19,SV.junk 19),(20,SV.junk 20),(21,SV.junk 21),(22,SV.junk 22),(23,SV.junk 23),(24,SV.junk 24),
 (25,SV.junk 25),(26,SV.junk 26),(27,SV.junk 27),(28,SV.junk 28),(29,SV.junk 29),(30,SV.junk 30),
 (31,SV.junk 31),(32,SV.junk 32),(33,SV.junk 33),(34,SV.junk 34),
 (35,SV.fn 100 [] [.ptr 100003 0,.ptr 100004 0]),(36,.int .i64 z),
 (37,
 .agg
 [.int .i64 (D.getInt hb (Int.toNat z) 0),.int .i64 (D.getInt hb (Int.toNat z) 1),
 .dat (D.cell hb (Int.toNat z) 2)]),
 (42,SV.junk 42),(43,SV.junk 43),(44,SV.junk 44),(45,SV.junk 45),(46,SV.junk 46),(47,SV.junk 47),
 (48,SV.junk 48),(49,SV.junk 49),(50,SV.junk 50)]
 0 51))
 []
 [(1012,
 OBlk.cells 31
 [.int .i64 (D.getInt hb (Int.toNat z) 0),.int .i64 (D.getInt hb (Int.toNat z) 1),
 .dat (D.cell hb (Int.toNat z) 2)]),
 (100003,OBlk.cells 22 [.dat a]),
 (100004,OBlk.cells 121 [.dat ha,.dat hb,.dat hc,.dat i,.dat o]),
 (100002,OBlk.cells 23 [.vec 9]),(9,OBlk.arr 31 q)]) := by kernel_rfl

theorem hib_go : execP Try.prog [] 100 ⟨⟨37,none,none,[.code (cAt Try.prog 37 [1,1,1,1,1,1,0,1,0,1])],(hiR hb a im z).set 12 (.ptr 1012 0)⟩,[],hiN ha hb hc i o a q z⟩ =
 Tree.all fun hs =>
 .need
 (D.sz q = 3 ∧
 D.Fits
 (D.slc (D.hd (hs 0 0)) 3
 [[D.int .i64 (D.getInt hb (Int.toNat z) 0),D.int .i64 (D.getInt hb (Int.toNat z) 1),
 D.cell hb (Int.toNat z) 2]])
 3 ∧
 (D.len q +
 D.len
 (D.slc (D.hd (hs 0 0)) 3
 [[D.int .i64 (D.getInt hb (Int.toNat z) 0),D.int .i64 (D.getInt hb (Int.toNat z) 1),
 D.cell hb (Int.toNat z) 2]])) *
 40 ≤
 140737488355328 ∧
 D.len q +
 D.len
 (D.slc (D.hd (hs 0 0)) 3
 [[D.int .i64 (D.getInt hb (Int.toNat z) 0),D.int .i64 (D.getInt hb (Int.toNat z) 1),
 D.cell hb (Int.toNat z) 2]]) ≤
 9223372036854775807)
 (.all fun hs_1 =>
 .leaf
 (Conf.mk
 (SFrm.mk 37 none none []
 (mkJ 0
 [(8,.dat im),(10,.ptr 100002 0),(12,.ptr 1012 0),
 (35,SV.fn 100 [] [.ptr 100003 0,.ptr 100004 0]),(36,.int .i64 z),
 (37,
 .agg
 [.int .i64 (D.getInt hb (Int.toNat z) 0),.int .i64 (D.getInt hb (Int.toNat z) 1),
 .dat (D.cell hb (Int.toNat z) 2)]),
 (38,.vec 9),
 (39,
 .agg
 [.int .i64 (D.getInt hb (Int.toNat z) 0),.int .i64 (D.getInt hb (Int.toNat z) 1),
 .dat (D.cell hb (Int.toNat z) 2)]),
 (40,.vec 1040),(41,.vec 1041)]
 0 51))
 []
 [(1041,
 OBlk.arr 31
 (D.slc (D.hd (hs_1 0 0)) 3
 (List.append (D.rows q)
 (D.rows
 (D.slc (D.hd (hs 0 0)) 3
 [[D.int .i64 (D.getInt hb (Int.toNat z) 0),
 D.int .i64 (D.getInt hb (Int.toNat z) 1),D.cell hb (Int.toNat z) 2]]))))),
 (1040,
 OBlk.arr 31
 (D.slc (D.hd (hs 0 0)) 3
 [[D.int .i64 (D.getInt hb (Int.toNat z) 0),D.int .i64 (D.getInt hb (Int.toNat z) 1),
 D.cell hb (Int.toNat z) 2]])),
 (1012,
 OBlk.cells 31
 [.int .i64 (D.getInt hb (Int.toNat z) 0),.int .i64 (D.getInt hb (Int.toNat z) 1),
 .dat (D.cell hb (Int.toNat z) 2)]),
 (100003,OBlk.cells 22 [.dat a]),
 (100004,OBlk.cells 121 [.dat ha,.dat hb,.dat hc,.dat i,.dat o]),
 (100002,OBlk.cells 23 [.vec 1041])])) := by kernel_rfl

theorem hie_in : exec Try.prog ctIm 400 ⟨⟨37,none,none,hiK,hiT a im⟩,[],hiM ha hb hc i o a q⟩ =
 Tree.need
 (D.Is Vol im ∧
 D.len im ≤ 1048576 ∧
 D.Is Wt q ∧ D.len q ≤ 1048576 ∧ ∀ (w : Wt),List.Mem w (D.to Wt q) → List.length (Wt.data w) ≤ 1048576)
 (.all fun hs =>
 .ret
 (SV.tup
 [.dat (D.like (hs 0 0) (Prod.fst (applyI (D.to Vol im) (D.to Wt q)))),
 .int .i64 (Prod.snd (Prod.snd (applyI (D.to Vol im) (D.to Wt q))))])) := by kernel_rfl

end
end Go.Proofs.Ytodhhmjilnfecaa
end
section
namespace Sx
open Go
theorem applyV_ok : ∀ (l : List Wt) (j : Nat) (im : List Vol),(∀ w,w ∈ l → fitsErr (volSizes im) w = 0) → applyV j l im = (l.foldl putW im,0,0)
 | [],_,_,_=>rfl
 | w :: r,j,im,h=>by
  have h1 := h w List.mem_cons_self
  unfold applyV
  rw [if_neg (by simp [h1])]
  exact applyV_ok r (j + 1) (putW im w) fun x hx=>by rw [putW_sizes h1]; exact h x (List.mem_cons_of_mem _ hx)
theorem volSizes_imgOf {l : List Int} (h : sizesErr l = 0) : volSizes (imgOf l) = l := by
 have hs := sizesErr_ok h
 unfold imgOf volSizes
 rw [if_neg (by simp [h]),List.map_map]
 conv=>rhs; rw [← List.map_id l]
 apply List.map_congr_left
 intro n hn
 have := hs.2.2 n hn
 simp only [Function.comp_apply,volOf,List.length_replicate,id_eq]
 omega
def imageH (h : Hist) (set : List Int) : List Vol × Int :=
 if (checkH h).1 ≠ 0 then ([],(checkH h).1)
 else if setH set h.writes.length = false then ([],2)
 else ((applyI (imgOf h.sizes) (pickW h.writes set)).1,(applyI (imgOf h.sizes) (pickW h.writes set)).2.2)
theorem imageH_e2 {h : Hist} {set : List Int} (h0 : (checkH h).1 = 0) (h2 : setH set h.writes.length = false) : imageH h set = ([],2) := by
 unfold imageH; rw [if_neg (by simp [h0]),if_pos h2]
noncomputable def spImgH (x : HiD × D) : SpecR := .data [x.1.Right ∧ x.2.Is Int ∧ x.2.len ≤ 1048576] fun ds=>.tup [.dat ((ds 0).like (imageH x.1.hist (x.2.to Int)).1),.int .i64 (imageH x.1.hist (x.2.to Int)).2]
theorem imageH_ok {h : Hist} {set : List Int} (h0 : (checkH h).1 = 0) (h2 : setH set h.writes.length = true) : imageH h set = ((pickW h.writes set).foldl putW (imgOf h.sizes),0) := by
 obtain ⟨k1,k2,k3,k4,k5⟩ := checkH_iff.1 h0
 unfold imageH
 rw [if_neg (by simp [h0]),if_neg (by simp [h2])]
 have e := volSizes_imgOf k1
 unfold applyI
 rw [if_neg (by rw [e]; simp [k1]),applyV_ok _ 0 _ fun w hw=>by rw [e]; exact k3 w (pickW_mem (setH_iff.1 h2).2 hw)]
def spSameI (x : D × D) : SpecR := .scalar [x.1.Is Vol ∧ x.2.Is Vol ∧ x.1.len ≤ 1048576 ∧ x.2.len ≤ 1048576 ∧ (∀ v,v ∈ x.1.to Vol → v.l.length ≤ 1048576) ∧ (∀ v,v ∈ x.2.to Vol → v.l.length ≤ 1048576)] (.bool (decide (x.1.to Vol = x.2.to Vol)))
def spSameV (x : D × D) : SpecR := .scalar [x.1.Is Sec ∧ x.2.Is Sec ∧ x.1.len ≤ 1048576 ∧ x.2.len ≤ 1048576] (.bool (decide (x.1.to Sec = x.2.to Sec)))
end Sx
end
section
open Go Go.Proofs Sx
namespace Go.Proofs.Ytodhhmjilnfecaa
set_option maxRecDepth 100000
theorem ctImOk : Ctrs.Ok Try.prog ctIm := by
 intro x hx
 rcases List.mem_cons.1 hx with rfl | hx
 ·exact ctrOf_ok lawNewI
 rcases List.mem_cons.1 hx with rfl | hx
 ·exact ctrOf_ok lawApply
 ·exact ctNOk x hx
theorem ret_imI {w : World} {H : HV} {X : SV} {vs : List Vol} {n : Int} {r : List Vol × Int} (hx : Stands Vol X vs) (e1 : r.1 = vs) (e2 : r.2 = n) : (Tree.ret (.tup [X,.int .i64 n])).holds Try.prog ⟨w,H⟩ (RetD w H fun ds=>.tup [.dat ((ds 0).like r.1),.int .i64 r.2]) := by
 obtain ⟨d,k1,k2,k3,k4⟩ := hx
 subst e1
 subst e2
 refine ⟨rfl,fun E H' w' g hv=>⟨H',after_good g,fun _=>d,fun E'=>?_,?_⟩⟩
 ·simp only [SV.den,SV.denL,k1,D.like_self k2 k3]
 ·simp only [SV.Ok,SV.OkL] at hv ⊢
  rw [D.like_self k2 k3]
  exact ⟨⟨k4 _ hv.1,k2.slc⟩,trivial,trivial⟩
section
variable {H : HV} {w : World} {ha hb hc a im : D} (hR : (HiD.mk ha hb hc).Right) (hra : a.Is Int) (hla : a.len ≤ 1048576)
 (h0 : (checkH (HiD.mk ha hb hc).hist).1 = 0) (h2 : setH (a.to Int) (hb.to Wt).length = true) (him : ImgOk im) (hit : im.to Vol = imgOf (ha.to Int))
include hR hra hla h0 h2 him hit
theorem him_loop {i o : D} {q0 : D} (hq0 : q0 = .slc none 3 []) :
  Runs Try.prog ⟨w,H⟩ ⟨⟨37,none,none,Item.code (cAt Try.prog 37 [1,1,1,1,1,1,0,1,0]) :: hiK,hiT a im⟩,[],hiM ha hb hc i o a q0⟩ (RetD w H fun ds=>.tup [.dat ((ds 0).like (imageH (HiD.mk ha hb hc).hist (a.to Int)).1),.int .i64 (imageH (HiD.mk ha hb hc).hist (a.to Int)).2]) := by
 obtain ⟨ra,rb,rc,la,lb,lc,rd⟩ := id hR
 simp only at ra rb rc la lb lc rd
 have al := D.Is.length (α := Int) a
 have bl := D.Is.length (α := Wt) hb
 rw [hiF1]
 refine runs_range icode (mm := fun q : D=>hiM ha hb hc i o a q) (Inv := fun j q=>q.Is Wt ∧ q.sz = 3 ∧ q.len = j ∧ q.to Wt = pickW (hb.to Wt) ((a.to Int).take j)) (Stop := fun _=>False)
  (c1W (fun q : D=>[(100002,OBlk.cells 23 [SV.vec 9]),(9,OBlk.arr 31 q)]) _ hra rb hla (fun j hj=>by
   have hj' : j < (a.to Int).length := by omega
   have := setH_in h2 hj'
   rw [(int_at hra hj').2.2,bl]
   exact this))
  q0 ⟨by rw [hq0]; exact is_nil _ _,by rw [hq0]; rfl,by rw [hq0]; rfl,by rw [hq0]; rfl⟩ rfl rfl rfl rfl rfl rfl (fun _=>rfl) (fun j=>(hiR hb a im (a.getInt (Int.toNat (j : Int)) 0)).set 12 (.ptr 1012 0)) (fun j q=>hiN ha hb hc i o a q (a.getInt (Int.toNat (j : Int)) 0)) ?_ ?_ ?_ ?_
 ·intro C1 q j hrd hj hi
  apply execP_sound (noCtr _) 100
  refine holds_of (hia_go ha hb hc i o a q im (a.getInt (Int.toNat (j : Int)) 0)) ?_
  exact end_here hrd ⟨rfl,rfl,rfl⟩
 ·intro C1 q j hrd hj ⟨hq,hqs,hql,hqt⟩
  have hj' : j < (a.to Int).length := by omega
  have hz := (int_at hra hj').2.2
  have hzr := setH_in h2 hj'
  obtain ⟨z,hzz⟩ := Int.eq_ofNat_of_zero_le hzr.1
  have hzb : z < (hb.to Wt).length := by omega
  obtain ⟨c1,c2,c3⟩ := wt_cell rb hzb
  apply execP_sound (noCtr _) 100
  rw [hib_go,hz,hzz]
  simp only [Int.toNat_natCast]
  refine fun hs1=>⟨⟨hqs,.inr rfl,by simp only [len_slc,List.length_cons,List.length_nil]; omega,by simp only [len_slc,List.length_cons,List.length_nil]; omega⟩,fun hs2=>?_⟩
  have hr := rows_app (rows_of hq) (wt_one (hb.getInt z 0) (hb.getInt z 1) c2)
  obtain ⟨i1,i2⟩ := is_of (h := D.hd (hs2 0 0)) (s := 3) rfl hr
  refine end_here hrd ⟨fun _=>⟨_,?_,i1,rfl,?_,i2.trans ?_⟩,fun h=>by cases h⟩
  ·refine (MemTo.sub (.cons₂ _ (.cons _ (.cons _ (.refl _))))).trans ((MemTo.move 1041 9 rfl).trans ?_)
   exact MemTo.perm (List.perm_append_comm (l₁ := [_,_,_]) (l₂ := [_]))
  ·simp only [len_slc,append_list,List.length_append,rows_slc,List.length_cons,List.length_nil]
   have : q.rows.length = q.len := rfl
   omega
  ·rw [hqt,pickW_snoc hj',hzz]
   congr 1
   have : (hb.to Wt).getD (Int.toNat (z : Int)) zWt = (hb.to Wt)[z] := by simp [hzb]
   rw [this,c3]
 ·intro D2 q ⟨hq,hqs,hql,hqt⟩
  apply exec_sound ctImOk 400
  rw [hie_in]
  have hqt : q.to Wt = pickW (hb.to Wt) (a.to Int) := by rw [hqt,al,List.take_length]
  refine ⟨⟨him.1,him.2.1,hq,by omega,fun x hx=>?_⟩,fun hs=>?_⟩
  ·have hx : x ∈ q.to Wt := hx
   rw [hqt] at hx
   exact rd x (pickW_mem (setH_iff.1 h2).2 hx)
  ·refine ret_marked (ret_imI stands_like ?_ ?_)
   all_goals
    rw [hit,hqt]
    unfold imageH
    rw [if_neg (by simp [h0]),if_neg (by rw [show (HiD.mk ha hb hc).hist.writes = hb.to Wt from rfl,h2]; decide)]
    rfl
 ·exact fun _ _ h=>h.elim
end
theorem lawImgH : Law Try.prog 37 ((rdHi.two rdD).sp spImgH) := by
 refine law_in _ (by kernel_rfl) fun H w ⟨⟨ha,hb,hc⟩,a⟩ hok hp=>?_
 obtain ⟨hR,hra,hla⟩ := hp _ (List.mem_singleton.2 rfl)
 simp only at hR hra hla
 obtain ⟨ra,rb,rc,la,lb,lc,rd⟩ := id hR
 simp only at ra rb rc la lb lc rd
 apply execQ_sound ctImOk 400
 rw [show (rdHi.two rdD).canon (⟨ha,hb,hc⟩,a) = [.agg [.dat ha,.dat hb,.dat hc],.dat a] from rfl,him_in]
 refine ⟨hR,fun hs=>⟨fun h=>?_,fun h=>?_⟩⟩
 ·have h : (checkH (HiD.mk ha hb hc).hist).1 ≠ 0 := by simpa using h
  refine ret_imI stands_nils ?_ ?_ <;> (unfold imageH; rw [if_pos h])
 have h0 : (checkH (HiD.mk ha hb hc).hist).1 = 0 := by simpa using h
 simp only [h0,onOk_ok]
 refine ⟨⟨hra,hla,rb⟩,fun h2=>?_,fun h2=>⟨⟨ra,la⟩,fun hs1=>?_⟩⟩
 ·have h2 : setH (a.to Int) (hb.to Wt).length = false := by simpa using h2
  have e := imageH_e2 (h := (HiD.mk ha hb hc).hist) (set := a.to Int) h0 h2
  exact ret_imI stands_nils (by rw [e]) (by rw [e])
 ·have h2 : setH (a.to Int) (hb.to Wt).length = true := by simpa using h2
  have hz := (checkH_iff.1 h0).1
  have hz : sizesErr (ha.to Int) = 0 := hz
  have hio := img_ok hz (hs1 0 0)
  have hit := D.like_to (hs1 0 0) (imgOf (ha.to Int))
  generalize D.like (hs1 0 0) (imgOf (ha.to Int)) = im at hio hit
  generalize D.like (hs 0 0) (checkH (HiD.mk ha hb hc).hist).2.issued = i
  generalize D.like (hs 0 1) (checkH (HiD.mk ha hb hc).hist).2.acked = o
  refine pin_to 100002 ⟨⟨37,none,none,Item.code (cAt Try.prog 37 [1,1,1,1,1,1,0,1,0]) :: hiK,hiT a im⟩,[],[(100002,OBlk.cells 23 [SV.nils]),(100003,OBlk.cells 22 [SV.dat a]),(100004,OBlk.cells 121 [SV.dat ha,SV.dat hb,SV.dat hc,SV.dat i,SV.dat o])]⟩ (by kernel_rfl) ?_ rfl
  refine vecIn_sound (K := 9) (e := 31) (sz := 3) (blk := some 100002) (off := 0) (c' := ⟨⟨37,none,none,Item.code (cAt Try.prog 37 [1,1,1,1,1,1,0,1,0]) :: hiK,hiT a im⟩,[],(9,OBlk.arr 31 (.slc none 3 [])) :: [(100002,OBlk.cells 23 [SV.vec 9]),(100003,OBlk.cells 22 [SV.dat a]),(100004,OBlk.cells 121 [SV.dat ha,SV.dat hb,SV.dat hc,SV.dat i,SV.dat o])]⟩) (by kernel_rfl) ?_
  refine runs_perm (hiM ha hb hc i o a (.slc none 3 [])) ?_ (him_loop hR hra hla h0 h2 hio hit rfl)
  exact ((List.perm_append_comm (l₁ := [(100003,OBlk.cells 22 [SV.dat a]),(100004,OBlk.cells 121 [SV.dat ha,SV.dat hb,SV.dat hc,SV.dat i,SV.dat o])]) (l₂ := [(100002,OBlk.cells 23 [SV.vec 9])])).append_right [(9,OBlk.arr 31 (.slc none 3 []))]).trans List.perm_append_comm
end Go.Proofs.Ytodhhmjilnfecaa
end
section
open Go Go.Proofs Sx
namespace Go.Proofs.Ytodhhmjilnfecaa
set_option maxRecDepth 100000
set_option maxHeartbeats 0
noncomputable def smvL (a b : D) (j : Int) : Conf := Conf.mk (SFrm.mk 75 none none [Item.inLoop (cAt Try.prog 75 [1,1,0,1,0,0]),Item.inBlock 0,Item.code (cAt Try.prog 75 [1,1,1])]
 (mkJ 0 [(0,.dat a),(1,.dat b),(5,.int .i64 j)] 0 26)) [] []
noncomputable def smiL (a b : D) (j : Int) : Conf := Conf.mk (SFrm.mk 38 none none [Item.inLoop (cAt Try.prog 38 [1,1,0,1,0,0]),Item.inBlock 0,Item.code (cAt Try.prog 38 [1,1,1])]
 (mkJ 0 [(0,.dat a),(1,.dat b),(5,.int .i64 j)] 0 27)) [] []
noncomputable def ctSmV : Ctrs := [(75,ctrOf ((rdD.two rdD).sp spSameV))]
section
variable (a b : D) (j : Int)
theorem smv_in : exec Try.prog [] 300 (entry Try.prog 75 [.dat a,.dat b]) =
 Tree.br ((↑(D.len a) : Int) != (↑(D.len b) : Int)) (.ret (.lb false))
 (.leaf
 (Conf.mk
 (SFrm.mk 75 none none
 [Item.inLoop (cAt Try.prog 75 [1,1,0,1,0,0]),Item.inBlock 0,Item.code (cAt Try.prog 75 [1,1,1])]
 (mkJ 0 [(0,.dat a),(1,.dat b),(5,.int .i64 0)] 0 26))
 [] [])) := by kernel_rfl

theorem smv_go : exec Try.prog [] 200 (unroll (smvL a b j)) =
 Tree.br (decide (j < (↑(D.len a) : Int)))
 (.all fun hs =>
 .need (0 ≤ j ∧ j < (↑(D.len a) : Int) ∧ D.sz a = 8)
 (.need
 (D.HasCells a (Int.toNat j) 0
 [FT.int .u8,FT.int .u8,FT.int .u8,FT.int .u8,FT.int .u8,
 FT.int .u8,FT.int .u8,FT.int .u8])
 (.need (0 ≤ j ∧ j < (↑(D.len b) : Int) ∧ D.sz b = 8)
 (.need
 (D.HasCells b (Int.toNat j) 0
 [FT.int .u8,FT.int .u8,FT.int .u8,FT.int .u8,FT.int .u8,
 FT.int .u8,FT.int .u8,FT.int .u8])
 (.br
 (!(decide (D.getInt a (Int.toNat j) 0 = D.getInt b (Int.toNat j) 0) &&
 (decide (D.getInt a (Int.toNat j) 1 = D.getInt b (Int.toNat j) 1) &&
 (decide (D.getInt a (Int.toNat j) 2 = D.getInt b (Int.toNat j) 2) &&
 (decide (D.getInt a (Int.toNat j) 3 = D.getInt b (Int.toNat j) 3) &&
 (decide (D.getInt a (Int.toNat j) 4 = D.getInt b (Int.toNat j) 4) &&
 (decide (D.getInt a (Int.toNat j) 5 = D.getInt b (Int.toNat j) 5) &&
 (decide (D.getInt a (Int.toNat j) 6 = D.getInt b (Int.toNat j) 6) &&
 (decide (D.getInt a (Int.toNat j) 7 = D.getInt b (Int.toNat j) 7) && true)))))))))
 (.ret (.lb false))
 (.leaf
 (Conf.mk
 (SFrm.mk 75 none none
 [Item.inLoop (cAt Try.prog 75 [1,1,0,1,0,0]),Item.inBlock 0,
 Item.code (cAt Try.prog 75 [1,1,1])]
 (mkJ 0 [(0,.dat a),(1,.dat b),(5,.int .i64 (IntKind.wrap .i64 (j + 1)))] 0
 26))
 [] [])))))))
 (.ret (.lb true)) := by kernel_rfl

theorem smi_in : exec Try.prog ctSmV 300 (entry Try.prog 38 [.dat a,.dat b]) =
 Tree.br ((↑(D.len a) : Int) != (↑(D.len b) : Int)) (.ret (.lb false))
 (.leaf
 (Conf.mk
 (SFrm.mk 38 none none
 [Item.inLoop (cAt Try.prog 38 [1,1,0,1,0,0]),Item.inBlock 0,Item.code (cAt Try.prog 38 [1,1,1])]
 (mkJ 0 [(0,.dat a),(1,.dat b),(5,.int .i64 0)] 0 27))
 [] [])) := by kernel_rfl

theorem smi_go : exec Try.prog ctSmV 200 (unroll (smiL a b j)) =
 Tree.br (decide (j < (↑(D.len a) : Int)))
 (.all fun hs =>
 .need (0 ≤ j ∧ j < (↑(D.len a) : Int) ∧ D.sz a = 1)
 (.need (D.HasCell a (Int.toNat j) 0 FT.slc)
 (.need (0 ≤ j ∧ j < (↑(D.len b) : Int) ∧ D.sz b = 1)
 (.need (D.HasCell b (Int.toNat j) 0 FT.slc)
 (.need
 (D.Is Sec (D.cell a (Int.toNat j) 0) ∧
 D.Is Sec (D.cell b (Int.toNat j) 0) ∧
 D.len (D.cell a (Int.toNat j) 0) ≤ 1048576 ∧ D.len (D.cell b (Int.toNat j) 0) ≤ 1048576)
 (.br (!decide (D.to Sec (D.cell a (Int.toNat j) 0) = D.to Sec (D.cell b (Int.toNat j) 0)))
 (.ret (.lb false))
 (.leaf
 (Conf.mk
 (SFrm.mk 38 none none
 [Item.inLoop (cAt Try.prog 38 [1,1,0,1,0,0]),Item.inBlock 0,
 Item.code (cAt Try.prog 38 [1,1,1])]
 (mkJ 0 [(0,.dat a),(1,.dat b),(5,.int .i64 (IntKind.wrap .i64 (j + 1)))]
 0 27))
 [] []))))))))
 (.ret (.lb true)) := by kernel_rfl

end
end Go.Proofs.Ytodhhmjilnfecaa
end
