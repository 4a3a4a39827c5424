/- The top of layer 21: TopBarrierGrows. -/
import Derived.Test.YtoechplbhbalaaaQT1toQT426
import Derived.Test.YtoechplbhbalaaaQT407toQL420
import Derived.Test.YtoechplbhbalaaaN17toRW16
set_option linter.all false
set_option maxRecDepth 100000
set_option maxHeartbeats 0
noncomputable section
open Go Go.Proofs Sx
namespace Sx
def rdByt : Rd1 Int where
 read x := match x with
  | .int .u8 n=>some n
  | _=>none
 canon n := .int .u8 n
 right H E x b h hok := by
  split at h
  ·cases h; exact ⟨rfl,trivial⟩
  ·cases h
def spTbg (x : Int × Int × D) : SpecR := .scalar [0 ≤ x.1 ∧ x.2.2.Is Sch] (.lb true)
theorem cut_soundE {P : Program} {C : Ctx} {R : Value → World → Prop} {cs : Ctrs} (hcs : cs.Ok P) {F : List FuncId} {n : Nat} {c : Conf} {bs : List Bool} {t : Tree} (e : Tree.cut (execRE P cs F n c) bs = t) (h : t.holds P C R) : Runs P C c R :=
 execRE_sound hcs F n c (cut_sound (bs := bs) (by rw [e]; exact h))
theorem open_iff {s : NdS} {n t : Nat} {G : Gh} (h : NOk s n G t) {i : Nat} {m : Mb} {l : List Int} (hm : s.mbs[i]? = some m) (hl : s.nums[i]? = some l) {w : Nat} (hw : w < l.length) :
  (m.waiting.contains (w : Int) = true → (⟨1,l[w]⟩ : Ev) ∉ s.whole.events) ∧ (m.held.contains (w : Int) = true → (⟨1,l[w]⟩ : Ev) ∉ s.whole.events) ∧ (m.waiting.contains (w : Int) = false → m.held.contains (w : Int) = false → (⟨1,l[w]⟩ : Ev) ∈ s.whole.events) := by
 have ho := h.opn i m l w _ hm hl (List.getElem?_eq_getElem hw)
 refine ⟨fun hc=>ho.1 (.inl (List.contains_iff_mem.1 hc)),fun hc=>ho.1 (.inr (List.contains_iff_mem.1 hc)),fun h1 h2=>?_⟩
 refine Decidable.byContradiction fun hn=>?_
 rcases ho.2 hn with hx | hx
 ·rw [List.contains_iff_mem.2 hx] at h1; cases h1
 ·rw [List.contains_iff_mem.2 hx] at h2; cases h2
end Sx
namespace Sv
theorem ctGrOk : Ctrs.Ok Try.prog ctGr := by
 intro x hx
 simp only [ctGr,List.mem_cons,List.not_mem_nil,or_false] at hx
 rcases hx with rfl | rfl | rfl
 ·exact ctrOf_ok lawCbr
 ·exact ctrOf_ok (B21.lawRes _ (.inl rfl))
 ·exact ctrOf_ok B21.lawCont
theorem ctGdOk : Ctrs.Ok Try.prog ctGd := by
 intro x hx
 rcases List.mem_cons.1 hx with rfl | hx
 ·exact ctrOf_ok lawCoE
 ·exact ctGrOk x hx
section
variable {s : NdS} {t : Nat} {G : Gh} {R : Value → World → Prop}
theorem gd10 {l last pd sd mb zd wd ed ms n0 : D} {pa j : Int} {m : Mb} {li : List Int} (h : NOk s 1 G t) (ht : t ≤ 99) (hw : NW 1 [n0] mb ms s) (hm : s.mbs[0]? = some m) (hl : s.nums[0]? = some li) (w0 : World) (H : HV) (hk : Runs Try.prog ⟨w0,H⟩ (gcL l pa last j mb 1 (noV 1 [n0] s.now s.co pd sd mb zd wd ed ms s.whole)) R) : ∀ q w : Nat,w + q = li.length →
  Runs Try.prog ⟨w0,H⟩ (gd10L l pa last j w s.now s.co pd sd mb zd wd ed ms n0 s.whole) R
 | 0,w,hq=>by
  obtain ⟨x1,x2,x3⟩ := hw.ns 0 _ _ rfl hl
  have hxl := D.Is.length (α := Int) n0
  rw [x3] at hxl
  have hwi : IntKind.i64.wrap ((0 : Int) + 1) = 1 := by decide
  refine unroll_sound rfl ?_
  apply execRE_sound ctGdOk [33] 400
  rw [gd10_go]
  simp only [hwi]
  exact ⟨fun hc=>absurd (of_decide_eq_true hc) (by omega),fun _=>hk⟩
 | q + 1,w,hq=>by
  obtain ⟨x1,x2,x3⟩ := hw.ns 0 _ _ rfl hl
  have hxl := D.Is.length (α := Int) n0
  rw [x3] at hxl
  have hwl : w < (n0.to Int).length := by rw [x3]; omega
  obtain ⟨d1,d2,d3⟩ := int_at x1 hwl
  simp only [Int.toNat_natCast] at d2 d3
  obtain ⟨mo,mg,mw,mh⟩ := h.mok 0 m hm
  obtain ⟨b1,b2,b3,b4,b5⟩ := mb_right hw.mb hm ⟨by omega,by omega⟩
  have w1 : (mb.cell 0 6).to Int = m.waiting := congrArg Mb.waiting b4
  have w2 : (mb.cell 0 7).to Int = m.held := congrArg Mb.held b4
  have c1 : (mb.cell 0 6).Is Int ∧ (mb.cell 0 6).len ≤ 1048576 := ⟨b3.1,by rw [D.Is.length (α := Int),w1]; omega⟩
  have c2 : (mb.cell 0 7).Is Int ∧ (mb.cell 0 7).len ≤ 1048576 := ⟨b3.2.1,by rw [D.Is.length (α := Int),w2]; omega⟩
  have ce : (likeEv ed s.whole.events).Is Ev ∧ (likeEv ed s.whole.events).len ≤ 1048576 := ⟨D.like_is _ _,by have := ((h.hsm (by omega)).right zd wd ed).2; omega⟩
  have hlw : w < li.length := by omega
  have hkv : n0.getInt w 0 = li[w] := by rw [d3]; simp only [x3]
  have he : hasEv (D.to Ev (likeEv ed s.whole.events)) (EvD.mk 1 (n0.getInt w 0)).ev = decide ((⟨1,li[w]⟩ : Ev) ∈ s.whole.events) := by
   unfold hasEv; rw [show D.to Ev (likeEv ed s.whole.events) = s.whole.events from D.like_to _ _,hkv]; rfl
  obtain ⟨o1,o2,o3⟩ := open_iff h hm hl hlw
  have hwi : IntKind.i64.wrap ((0 : Int) + 1) = 1 := by decide
  have hww : IntKind.i64.wrap ((w : Int) + 1) = ((w + 1 : Nat) : Int) := by rw [wrap64J (by have := h.til 0 li hl; omega) (by have := h.til 0 li hl; omega)]; rfl
  have ih := gd10 h ht hw hm hl w0 H hk q (w + 1) (by omega)
  refine unroll_sound rfl ?_
  apply execRE_sound ctGdOk [33] 400
  rw [gd10_go]
  simp only [Int.toNat_natCast,he,w1,w2,hww,hwi]
  refine ⟨fun _=>⟨⟨by omega,by omega,x2⟩,⟨d2,x2⟩,c1,fun hc=>⟨ce,fun hx=>?_,fun _=>ih⟩,fun hc=>⟨c2,ce,fun hx=>?_,fun _=>ih⟩⟩,fun hc=>absurd (of_decide_eq_false hc) (by omega)⟩
  ·have hn := o1 hc
   rw [decide_eq_false hn] at hx; exact absurd hx (by decide)
  ·have hx := of_decide_eq_true hx
   cases hh : m.held.contains (w : Int) with
   | true=>rw [hh,decide_eq_false (o2 hh)] at hx; cases hx
   | false=>rw [hh,decide_eq_true (o3 hc hh)] at hx; cases hx
theorem gc1_all {l last pd sd mb zd wd ed ms n0 : D} {pa j : Int} (h : NOk s 1 G t) (ht : t ≤ 99) (hw : NW 1 [n0] mb ms s) (w0 : World) (H : HV) (hk : ∀ mm,NodMem 1 s mm → Runs Try.prog ⟨w0,H⟩ (gaL l pa last (IntKind.i64.wrap (j + 1)) mm) R) : Runs Try.prog ⟨w0,H⟩ (gcL l pa last j mb 0 (noV 1 [n0] s.now s.co pd sd mb zd wd ed ms s.whole)) R := by
 have hmbl : mb.len = 1 := by rw [D.Is.length (α := Mb),hw.mb.2.2,h.nb]
 have hmem : NodMem 1 s (noM 1 [n0] s.now s.co pd sd mb zd wd ed ms s.whole) := ⟨_,_,_,_,_,_,_,_,hw,rfl⟩
 have c1 : Runs Try.prog ⟨w0,H⟩ (gcL l pa last j mb 1 (noV 1 [n0] s.now s.co pd sd mb zd wd ed ms s.whole)) R := by
  refine unroll_sound rfl ?_
  refine cut_soundE ctGrOk (gc11_go ..) ?_
  exact ⟨decide_eq_false (by omega),runs_nod 1 (hk _ hmem)⟩
 have c0 : Runs Try.prog ⟨w0,H⟩ (gcL l pa last j mb 0 (noV 1 [n0] s.now s.co pd sd mb zd wd ed ms s.whole)) R := by
  obtain ⟨m,hm⟩ : ∃ m,s.mbs[0]? = some m := ⟨_,List.getElem?_eq_getElem (by rw [h.nb]; omega)⟩
  obtain ⟨li,hl⟩ : ∃ l,s.nums[0]? = some l := ⟨_,List.getElem?_eq_getElem (by rw [h.nn]; omega)⟩
  obtain ⟨mo,mg,mw,mh⟩ := h.mok 0 m hm
  obtain ⟨b1,b2,b3,b4,b5⟩ := mb_right hw.mb hm ⟨by omega,by omega⟩
  refine unroll_sound rfl ?_
  apply execRE_sound ctGrOk [33] 400
  rw [gc10_go]
  exact ⟨fun _=>⟨b1,⟨b2,hw.mb.2.1⟩,by decide,gd10 h ht hw hm hl w0 H c1 li.length 0 (by omega)⟩,fun hc=>absurd (of_decide_eq_false hc) (by omega)⟩
 exact c0
theorem gb1_all {l last p pd sd mb zd wd ed ms n0 : D} {pa j : Int} (hp : p.Is Int) (hla : last.Is Int) (hll : last.len ≤ 100) (hc : ∀ i : Nat,i < (last.to Int).length → ∃ a b,(last.to Int)[i]? = some a ∧ (p.to Int)[i]? = some b ∧ a ≤ b) (w0 : World) (H : HV) (hk : Runs Try.prog ⟨w0,H⟩ (gcL l pa p j mb 0 (noV 1 [n0] s.now s.co pd sd mb zd wd ed ms s.whole)) R) : ∀ q i : Nat,i + q = last.len →
  Runs Try.prog ⟨w0,H⟩ (gbL l pa last j p i (noV 1 [n0] s.now s.co pd sd mb zd wd ed ms s.whole)) R
 | 0,i,hq=>by
  refine unroll_sound rfl ?_
  apply execRE_sound ctGrOk [33] 400
  rw [gb1_go]
  exact ⟨fun hc=>absurd (of_decide_eq_true hc) (by omega),fun _=>hk⟩
 | q + 1,i,hq=>by
  have hlen := D.Is.length (α := Int) last
  have hplen := D.Is.length (α := Int) p
  have hi : i < (last.to Int).length := by omega
  obtain ⟨a,b,ha,hb,hab⟩ := hc i hi
  have hip : i < (p.to Int).length := (List.getElem?_eq_some_iff.1 hb).1
  obtain ⟨a1,a2,a3⟩ := int_at hla hi
  obtain ⟨b1,b2,b3⟩ := int_at hp hip
  have e1 : (last.to Int)[i] = a := (List.getElem?_eq_some_iff.1 ha).2
  have e2 : (p.to Int)[i] = b := (List.getElem?_eq_some_iff.1 hb).2
  rw [e1] at a3
  rw [e2] at b3
  have f1 : decide ((i : Int) ≥ (p.len : Int)) = false := decide_eq_false (by omega)
  have ih := gb1_all hp hla hll hc w0 H hk q (i + 1) (by omega)
  have hww : IntKind.i64.wrap ((i : Int) + 1) = ((i + 1 : Nat) : Int) := by rw [wrap64J (by omega) (by omega)]; rfl
  refine unroll_sound rfl ?_
  apply execRE_sound ctGrOk [33] 400
  rw [gb1_go]
  simp only [hww]
  refine ⟨fun _ hs=>⟨fun hx=>absurd (f1.symm.trans hx) (by decide),fun _=>⟨f1,f1,f1,b1,f1,b2,f1,f1,f1,a1,f1,a2,f1,f1,fun hx=>?_,fun _=>ih⟩⟩,fun hx=>absurd (of_decide_eq_false hx) (by omega)⟩
  have hx := of_decide_eq_true hx
  rw [a3,b3] at hx
  omega
theorem gd20 {l last pd sd mb zd wd ed ms n0 n1 : D} {pa j : Int} {m : Mb} {li : List Int} (h : NOk s 2 G t) (ht : t ≤ 99) (hw : NW 2 [n0,n1] mb ms s) (hm : s.mbs[0]? = some m) (hl : s.nums[0]? = some li) (w0 : World) (H : HV) (hk : Runs Try.prog ⟨w0,H⟩ (gcL l pa last j mb 1 (noV 2 [n0,n1] s.now s.co pd sd mb zd wd ed ms s.whole)) R) : ∀ q w : Nat,w + q = li.length →
  Runs Try.prog ⟨w0,H⟩ (gd20L l pa last j w s.now s.co pd sd mb zd wd ed ms n0 n1 s.whole) R
 | 0,w,hq=>by
  obtain ⟨x1,x2,x3⟩ := hw.ns 0 _ _ rfl hl
  have hxl := D.Is.length (α := Int) n0
  rw [x3] at hxl
  have hwi : IntKind.i64.wrap ((0 : Int) + 1) = 1 := by decide
  refine unroll_sound rfl ?_
  apply execRE_sound ctGdOk [33] 400
  rw [gd20_go]
  simp only [hwi]
  exact ⟨fun hc=>absurd (of_decide_eq_true hc) (by omega),fun _=>hk⟩
 | q + 1,w,hq=>by
  obtain ⟨x1,x2,x3⟩ := hw.ns 0 _ _ rfl hl
  have hxl := D.Is.length (α := Int) n0
  rw [x3] at hxl
  have hwl : w < (n0.to Int).length := by rw [x3]; omega
  obtain ⟨d1,d2,d3⟩ := int_at x1 hwl
  simp only [Int.toNat_natCast] at d2 d3
  obtain ⟨mo,mg,mw,mh⟩ := h.mok 0 m hm
  obtain ⟨b1,b2,b3,b4,b5⟩ := mb_right hw.mb hm ⟨by omega,by omega⟩
  have w1 : (mb.cell 0 6).to Int = m.waiting := congrArg Mb.waiting b4
  have w2 : (mb.cell 0 7).to Int = m.held := congrArg Mb.held b4
  have c1 : (mb.cell 0 6).Is Int ∧ (mb.cell 0 6).len ≤ 1048576 := ⟨b3.1,by rw [D.Is.length (α := Int),w1]; omega⟩
  have c2 : (mb.cell 0 7).Is Int ∧ (mb.cell 0 7).len ≤ 1048576 := ⟨b3.2.1,by rw [D.Is.length (α := Int),w2]; omega⟩
  have ce : (likeEv ed s.whole.events).Is Ev ∧ (likeEv ed s.whole.events).len ≤ 1048576 := ⟨D.like_is _ _,by have := ((h.hsm (by omega)).right zd wd ed).2; omega⟩
  have hlw : w < li.length := by omega
  have hkv : n0.getInt w 0 = li[w] := by rw [d3]; simp only [x3]
  have he : hasEv (D.to Ev (likeEv ed s.whole.events)) (EvD.mk 1 (n0.getInt w 0)).ev = decide ((⟨1,li[w]⟩ : Ev) ∈ s.whole.events) := by
   unfold hasEv; rw [show D.to Ev (likeEv ed s.whole.events) = s.whole.events from D.like_to _ _,hkv]; rfl
  obtain ⟨o1,o2,o3⟩ := open_iff h hm hl hlw
  have hwi : IntKind.i64.wrap ((0 : Int) + 1) = 1 := by decide
  have hww : IntKind.i64.wrap ((w : Int) + 1) = ((w + 1 : Nat) : Int) := by rw [wrap64J (by have := h.til 0 li hl; omega) (by have := h.til 0 li hl; omega)]; rfl
  have ih := gd20 h ht hw hm hl w0 H hk q (w + 1) (by omega)
  refine unroll_sound rfl ?_
  apply execRE_sound ctGdOk [33] 400
  rw [gd20_go]
  simp only [Int.toNat_natCast,he,w1,w2,hww,hwi]
  refine ⟨fun _=>⟨⟨by omega,by omega,x2⟩,⟨d2,x2⟩,c1,fun hc=>⟨ce,fun hx=>?_,fun _=>ih⟩,fun hc=>⟨c2,ce,fun hx=>?_,fun _=>ih⟩⟩,fun hc=>absurd (of_decide_eq_false hc) (by omega)⟩
  ·have hn := o1 hc
   rw [decide_eq_false hn] at hx; exact absurd hx (by decide)
  ·have hx := of_decide_eq_true hx
   cases hh : m.held.contains (w : Int) with
   | true=>rw [hh,decide_eq_false (o2 hh)] at hx; cases hx
   | false=>rw [hh,decide_eq_true (o3 hc hh)] at hx; cases hx
theorem gd21 {l last pd sd mb zd wd ed ms n0 n1 : D} {pa j : Int} {m : Mb} {li : List Int} (h : NOk s 2 G t) (ht : t ≤ 99) (hw : NW 2 [n0,n1] mb ms s) (hm : s.mbs[1]? = some m) (hl : s.nums[1]? = some li) (w0 : World) (H : HV) (hk : Runs Try.prog ⟨w0,H⟩ (gcL l pa last j mb 2 (noV 2 [n0,n1] s.now s.co pd sd mb zd wd ed ms s.whole)) R) : ∀ q w : Nat,w + q = li.length →
  Runs Try.prog ⟨w0,H⟩ (gd21L l pa last j w s.now s.co pd sd mb zd wd ed ms n0 n1 s.whole) R
 | 0,w,hq=>by
  obtain ⟨x1,x2,x3⟩ := hw.ns 1 _ _ rfl hl
  have hxl := D.Is.length (α := Int) n1
  rw [x3] at hxl
  have hwi : IntKind.i64.wrap ((1 : Int) + 1) = 2 := by decide
  refine unroll_sound rfl ?_
  apply execRE_sound ctGdOk [33] 400
  rw [gd21_go]
  simp only [hwi]
  exact ⟨fun hc=>absurd (of_decide_eq_true hc) (by omega),fun _=>hk⟩
 | q + 1,w,hq=>by
  obtain ⟨x1,x2,x3⟩ := hw.ns 1 _ _ rfl hl
  have hxl := D.Is.length (α := Int) n1
  rw [x3] at hxl
  have hwl : w < (n1.to Int).length := by rw [x3]; omega
  obtain ⟨d1,d2,d3⟩ := int_at x1 hwl
  simp only [Int.toNat_natCast] at d2 d3
  obtain ⟨mo,mg,mw,mh⟩ := h.mok 1 m hm
  obtain ⟨b1,b2,b3,b4,b5⟩ := mb_right hw.mb hm ⟨by omega,by omega⟩
  have w1 : (mb.cell 1 6).to Int = m.waiting := congrArg Mb.waiting b4
  have w2 : (mb.cell 1 7).to Int = m.held := congrArg Mb.held b4
  have c1 : (mb.cell 1 6).Is Int ∧ (mb.cell 1 6).len ≤ 1048576 := ⟨b3.1,by rw [D.Is.length (α := Int),w1]; omega⟩
  have c2 : (mb.cell 1 7).Is Int ∧ (mb.cell 1 7).len ≤ 1048576 := ⟨b3.2.1,by rw [D.Is.length (α := Int),w2]; omega⟩
  have ce : (likeEv ed s.whole.events).Is Ev ∧ (likeEv ed s.whole.events).len ≤ 1048576 := ⟨D.like_is _ _,by have := ((h.hsm (by omega)).right zd wd ed).2; omega⟩
  have hlw : w < li.length := by omega
  have hkv : n1.getInt w 0 = li[w] := by rw [d3]; simp only [x3]
  have he : hasEv (D.to Ev (likeEv ed s.whole.events)) (EvD.mk 1 (n1.getInt w 0)).ev = decide ((⟨1,li[w]⟩ : Ev) ∈ s.whole.events) := by
   unfold hasEv; rw [show D.to Ev (likeEv ed s.whole.events) = s.whole.events from D.like_to _ _,hkv]; rfl
  obtain ⟨o1,o2,o3⟩ := open_iff h hm hl hlw
  have hwi : IntKind.i64.wrap ((1 : Int) + 1) = 2 := by decide
  have hww : IntKind.i64.wrap ((w : Int) + 1) = ((w + 1 : Nat) : Int) := by rw [wrap64J (by have := h.til 1 li hl; omega) (by have := h.til 1 li hl; omega)]; rfl
  have ih := gd21 h ht hw hm hl w0 H hk q (w + 1) (by omega)
  refine unroll_sound rfl ?_
  apply execRE_sound ctGdOk [33] 400
  rw [gd21_go]
  simp only [Int.toNat_natCast,he,w1,w2,hww,hwi]
  refine ⟨fun _=>⟨⟨by omega,by omega,x2⟩,⟨d2,x2⟩,c1,fun hc=>⟨ce,fun hx=>?_,fun _=>ih⟩,fun hc=>⟨c2,ce,fun hx=>?_,fun _=>ih⟩⟩,fun hc=>absurd (of_decide_eq_false hc) (by omega)⟩
  ·have hn := o1 hc
   rw [decide_eq_false hn] at hx; exact absurd hx (by decide)
  ·have hx := of_decide_eq_true hx
   cases hh : m.held.contains (w : Int) with
   | true=>rw [hh,decide_eq_false (o2 hh)] at hx; cases hx
   | false=>rw [hh,decide_eq_true (o3 hc hh)] at hx; cases hx
theorem gc2_all {l last pd sd mb zd wd ed ms n0 n1 : D} {pa j : Int} (h : NOk s 2 G t) (ht : t ≤ 99) (hw : NW 2 [n0,n1] mb ms s) (w0 : World) (H : HV) (hk : ∀ mm,NodMem 2 s mm → Runs Try.prog ⟨w0,H⟩ (gaL l pa last (IntKind.i64.wrap (j + 1)) mm) R) : Runs Try.prog ⟨w0,H⟩ (gcL l pa last j mb 0 (noV 2 [n0,n1] s.now s.co pd sd mb zd wd ed ms s.whole)) R := by
 have hmbl : mb.len = 2 := by rw [D.Is.length (α := Mb),hw.mb.2.2,h.nb]
 have hmem : NodMem 2 s (noM 2 [n0,n1] s.now s.co pd sd mb zd wd ed ms s.whole) := ⟨_,_,_,_,_,_,_,_,hw,rfl⟩
 have c2 : Runs Try.prog ⟨w0,H⟩ (gcL l pa last j mb 2 (noV 2 [n0,n1] s.now s.co pd sd mb zd wd ed ms s.whole)) R := by
  refine unroll_sound rfl ?_
  refine cut_soundE ctGrOk (gc22_go ..) ?_
  exact ⟨decide_eq_false (by omega),runs_nod 2 (hk _ hmem)⟩
 have c1 : Runs Try.prog ⟨w0,H⟩ (gcL l pa last j mb 1 (noV 2 [n0,n1] s.now s.co pd sd mb zd wd ed ms s.whole)) R := by
  obtain ⟨m,hm⟩ : ∃ m,s.mbs[1]? = some m := ⟨_,List.getElem?_eq_getElem (by rw [h.nb]; omega)⟩
  obtain ⟨li,hl⟩ : ∃ l,s.nums[1]? = some l := ⟨_,List.getElem?_eq_getElem (by rw [h.nn]; omega)⟩
  obtain ⟨mo,mg,mw,mh⟩ := h.mok 1 m hm
  obtain ⟨b1,b2,b3,b4,b5⟩ := mb_right hw.mb hm ⟨by omega,by omega⟩
  refine unroll_sound rfl ?_
  apply execRE_sound ctGrOk [33] 400
  rw [gc21_go]
  exact ⟨fun _=>⟨b1,⟨b2,hw.mb.2.1⟩,by decide,gd21 h ht hw hm hl w0 H c2 li.length 0 (by omega)⟩,fun hc=>absurd (of_decide_eq_false hc) (by omega)⟩
 have c0 : Runs Try.prog ⟨w0,H⟩ (gcL l pa last j mb 0 (noV 2 [n0,n1] s.now s.co pd sd mb zd wd ed ms s.whole)) R := by
  obtain ⟨m,hm⟩ : ∃ m,s.mbs[0]? = some m := ⟨_,List.getElem?_eq_getElem (by rw [h.nb]; omega)⟩
  obtain ⟨li,hl⟩ : ∃ l,s.nums[0]? = some l := ⟨_,List.getElem?_eq_getElem (by rw [h.nn]; omega)⟩
  obtain ⟨mo,mg,mw,mh⟩ := h.mok 0 m hm
  obtain ⟨b1,b2,b3,b4,b5⟩ := mb_right hw.mb hm ⟨by omega,by omega⟩
  refine unroll_sound rfl ?_
  apply execRE_sound ctGrOk [33] 400
  rw [gc20_go]
  exact ⟨fun _=>⟨b1,⟨b2,hw.mb.2.1⟩,by decide,gd20 h ht hw hm hl w0 H c1 li.length 0 (by omega)⟩,fun hc=>absurd (of_decide_eq_false hc) (by omega)⟩
 exact c0
theorem gb2_all {l last p pd sd mb zd wd ed ms n0 n1 : D} {pa j : Int} (hp : p.Is Int) (hla : last.Is Int) (hll : last.len ≤ 100) (hc : ∀ i : Nat,i < (last.to Int).length → ∃ a b,(last.to Int)[i]? = some a ∧ (p.to Int)[i]? = some b ∧ a ≤ b) (w0 : World) (H : HV) (hk : Runs Try.prog ⟨w0,H⟩ (gcL l pa p j mb 0 (noV 2 [n0,n1] s.now s.co pd sd mb zd wd ed ms s.whole)) R) : ∀ q i : Nat,i + q = last.len →
  Runs Try.prog ⟨w0,H⟩ (gbL l pa last j p i (noV 2 [n0,n1] s.now s.co pd sd mb zd wd ed ms s.whole)) R
 | 0,i,hq=>by
  refine unroll_sound rfl ?_
  apply execRE_sound ctGrOk [33] 400
  rw [gb2_go]
  exact ⟨fun hc=>absurd (of_decide_eq_true hc) (by omega),fun _=>hk⟩
 | q + 1,i,hq=>by
  have hlen := D.Is.length (α := Int) last
  have hplen := D.Is.length (α := Int) p
  have hi : i < (last.to Int).length := by omega
  obtain ⟨a,b,ha,hb,hab⟩ := hc i hi
  have hip : i < (p.to Int).length := (List.getElem?_eq_some_iff.1 hb).1
  obtain ⟨a1,a2,a3⟩ := int_at hla hi
  obtain ⟨b1,b2,b3⟩ := int_at hp hip
  have e1 : (last.to Int)[i] = a := (List.getElem?_eq_some_iff.1 ha).2
  have e2 : (p.to Int)[i] = b := (List.getElem?_eq_some_iff.1 hb).2
  rw [e1] at a3
  rw [e2] at b3
  have f1 : decide ((i : Int) ≥ (p.len : Int)) = false := decide_eq_false (by omega)
  have ih := gb2_all hp hla hll hc w0 H hk q (i + 1) (by omega)
  have hww : IntKind.i64.wrap ((i : Int) + 1) = ((i + 1 : Nat) : Int) := by rw [wrap64J (by omega) (by omega)]; rfl
  refine unroll_sound rfl ?_
  apply execRE_sound ctGrOk [33] 400
  rw [gb2_go]
  simp only [hww]
  refine ⟨fun _ hs=>⟨fun hx=>absurd (f1.symm.trans hx) (by decide),fun _=>⟨f1,f1,f1,b1,f1,b2,f1,f1,f1,a1,f1,a2,f1,f1,fun hx=>?_,fun _=>ih⟩⟩,fun hx=>absurd (of_decide_eq_false hx) (by omega)⟩
  have hx := of_decide_eq_true hx
  rw [a3,b3] at hx
  omega
theorem gd30 {l last pd sd mb zd wd ed ms n0 n1 n2 : D} {pa j : Int} {m : Mb} {li : List Int} (h : NOk s 3 G t) (ht : t ≤ 99) (hw : NW 3 [n0,n1,n2] mb ms s) (hm : s.mbs[0]? = some m) (hl : s.nums[0]? = some li) (w0 : World) (H : HV) (hk : Runs Try.prog ⟨w0,H⟩ (gcL l pa last j mb 1 (noV 3 [n0,n1,n2] s.now s.co pd sd mb zd wd ed ms s.whole)) R) : ∀ q w : Nat,w + q = li.length →
  Runs Try.prog ⟨w0,H⟩ (gd30L l pa last j w s.now s.co pd sd mb zd wd ed ms n0 n1 n2 s.whole) R
 | 0,w,hq=>by
  obtain ⟨x1,x2,x3⟩ := hw.ns 0 _ _ rfl hl
  have hxl := D.Is.length (α := Int) n0
  rw [x3] at hxl
  have hwi : IntKind.i64.wrap ((0 : Int) + 1) = 1 := by decide
  refine unroll_sound rfl ?_
  apply execRE_sound ctGdOk [33] 400
  rw [gd30_go]
  simp only [hwi]
  exact ⟨fun hc=>absurd (of_decide_eq_true hc) (by omega),fun _=>hk⟩
 | q + 1,w,hq=>by
  obtain ⟨x1,x2,x3⟩ := hw.ns 0 _ _ rfl hl
  have hxl := D.Is.length (α := Int) n0
  rw [x3] at hxl
  have hwl : w < (n0.to Int).length := by rw [x3]; omega
  obtain ⟨d1,d2,d3⟩ := int_at x1 hwl
  simp only [Int.toNat_natCast] at d2 d3
  obtain ⟨mo,mg,mw,mh⟩ := h.mok 0 m hm
  obtain ⟨b1,b2,b3,b4,b5⟩ := mb_right hw.mb hm ⟨by omega,by omega⟩
  have w1 : (mb.cell 0 6).to Int = m.waiting := congrArg Mb.waiting b4
  have w2 : (mb.cell 0 7).to Int = m.held := congrArg Mb.held b4
  have c1 : (mb.cell 0 6).Is Int ∧ (mb.cell 0 6).len ≤ 1048576 := ⟨b3.1,by rw [D.Is.length (α := Int),w1]; omega⟩
  have c2 : (mb.cell 0 7).Is Int ∧ (mb.cell 0 7).len ≤ 1048576 := ⟨b3.2.1,by rw [D.Is.length (α := Int),w2]; omega⟩
  have ce : (likeEv ed s.whole.events).Is Ev ∧ (likeEv ed s.whole.events).len ≤ 1048576 := ⟨D.like_is _ _,by have := ((h.hsm (by omega)).right zd wd ed).2; omega⟩
  have hlw : w < li.length := by omega
  have hkv : n0.getInt w 0 = li[w] := by rw [d3]; simp only [x3]
  have he : hasEv (D.to Ev (likeEv ed s.whole.events)) (EvD.mk 1 (n0.getInt w 0)).ev = decide ((⟨1,li[w]⟩ : Ev) ∈ s.whole.events) := by
   unfold hasEv; rw [show D.to Ev (likeEv ed s.whole.events) = s.whole.events from D.like_to _ _,hkv]; rfl
  obtain ⟨o1,o2,o3⟩ := open_iff h hm hl hlw
  have hwi : IntKind.i64.wrap ((0 : Int) + 1) = 1 := by decide
  have hww : IntKind.i64.wrap ((w : Int) + 1) = ((w + 1 : Nat) : Int) := by rw [wrap64J (by have := h.til 0 li hl; omega) (by have := h.til 0 li hl; omega)]; rfl
  have ih := gd30 h ht hw hm hl w0 H hk q (w + 1) (by omega)
  refine unroll_sound rfl ?_
  apply execRE_sound ctGdOk [33] 400
  rw [gd30_go]
  simp only [Int.toNat_natCast,he,w1,w2,hww,hwi]
  refine ⟨fun _=>⟨⟨by omega,by omega,x2⟩,⟨d2,x2⟩,c1,fun hc=>⟨ce,fun hx=>?_,fun _=>ih⟩,fun hc=>⟨c2,ce,fun hx=>?_,fun _=>ih⟩⟩,fun hc=>absurd (of_decide_eq_false hc) (by omega)⟩
  ·have hn := o1 hc
   rw [decide_eq_false hn] at hx; exact absurd hx (by decide)
  ·have hx := of_decide_eq_true hx
   cases hh : m.held.contains (w : Int) with
   | true=>rw [hh,decide_eq_false (o2 hh)] at hx; cases hx
   | false=>rw [hh,decide_eq_true (o3 hc hh)] at hx; cases hx
theorem gd31 {l last pd sd mb zd wd ed ms n0 n1 n2 : D} {pa j : Int} {m : Mb} {li : List Int} (h : NOk s 3 G t) (ht : t ≤ 99) (hw : NW 3 [n0,n1,n2] mb ms s) (hm : s.mbs[1]? = some m) (hl : s.nums[1]? = some li) (w0 : World) (H : HV) (hk : Runs Try.prog ⟨w0,H⟩ (gcL l pa last j mb 2 (noV 3 [n0,n1,n2] s.now s.co pd sd mb zd wd ed ms s.whole)) R) : ∀ q w : Nat,w + q = li.length →
  Runs Try.prog ⟨w0,H⟩ (gd31L l pa last j w s.now s.co pd sd mb zd wd ed ms n0 n1 n2 s.whole) R
 | 0,w,hq=>by
  obtain ⟨x1,x2,x3⟩ := hw.ns 1 _ _ rfl hl
  have hxl := D.Is.length (α := Int) n1
  rw [x3] at hxl
  have hwi : IntKind.i64.wrap ((1 : Int) + 1) = 2 := by decide
  refine unroll_sound rfl ?_
  apply execRE_sound ctGdOk [33] 400
  rw [gd31_go]
  simp only [hwi]
  exact ⟨fun hc=>absurd (of_decide_eq_true hc) (by omega),fun _=>hk⟩
 | q + 1,w,hq=>by
  obtain ⟨x1,x2,x3⟩ := hw.ns 1 _ _ rfl hl
  have hxl := D.Is.length (α := Int) n1
  rw [x3] at hxl
  have hwl : w < (n1.to Int).length := by rw [x3]; omega
  obtain ⟨d1,d2,d3⟩ := int_at x1 hwl
  simp only [Int.toNat_natCast] at d2 d3
  obtain ⟨mo,mg,mw,mh⟩ := h.mok 1 m hm
  obtain ⟨b1,b2,b3,b4,b5⟩ := mb_right hw.mb hm ⟨by omega,by omega⟩
  have w1 : (mb.cell 1 6).to Int = m.waiting := congrArg Mb.waiting b4
  have w2 : (mb.cell 1 7).to Int = m.held := congrArg Mb.held b4
  have c1 : (mb.cell 1 6).Is Int ∧ (mb.cell 1 6).len ≤ 1048576 := ⟨b3.1,by rw [D.Is.length (α := Int),w1]; omega⟩
  have c2 : (mb.cell 1 7).Is Int ∧ (mb.cell 1 7).len ≤ 1048576 := ⟨b3.2.1,by rw [D.Is.length (α := Int),w2]; omega⟩
  have ce : (likeEv ed s.whole.events).Is Ev ∧ (likeEv ed s.whole.events).len ≤ 1048576 := ⟨D.like_is _ _,by have := ((h.hsm (by omega)).right zd wd ed).2; omega⟩
  have hlw : w < li.length := by omega
  have hkv : n1.getInt w 0 = li[w] := by rw [d3]; simp only [x3]
  have he : hasEv (D.to Ev (likeEv ed s.whole.events)) (EvD.mk 1 (n1.getInt w 0)).ev = decide ((⟨1,li[w]⟩ : Ev) ∈ s.whole.events) := by
   unfold hasEv; rw [show D.to Ev (likeEv ed s.whole.events) = s.whole.events from D.like_to _ _,hkv]; rfl
  obtain ⟨o1,o2,o3⟩ := open_iff h hm hl hlw
  have hwi : IntKind.i64.wrap ((1 : Int) + 1) = 2 := by decide
  have hww : IntKind.i64.wrap ((w : Int) + 1) = ((w + 1 : Nat) : Int) := by rw [wrap64J (by have := h.til 1 li hl; omega) (by have := h.til 1 li hl; omega)]; rfl
  have ih := gd31 h ht hw hm hl w0 H hk q (w + 1) (by omega)
  refine unroll_sound rfl ?_
  apply execRE_sound ctGdOk [33] 400
  rw [gd31_go]
  simp only [Int.toNat_natCast,he,w1,w2,hww,hwi]
  refine ⟨fun _=>⟨⟨by omega,by omega,x2⟩,⟨d2,x2⟩,c1,fun hc=>⟨ce,fun hx=>?_,fun _=>ih⟩,fun hc=>⟨c2,ce,fun hx=>?_,fun _=>ih⟩⟩,fun hc=>absurd (of_decide_eq_false hc) (by omega)⟩
  ·have hn := o1 hc
   rw [decide_eq_false hn] at hx; exact absurd hx (by decide)
  ·have hx := of_decide_eq_true hx
   cases hh : m.held.contains (w : Int) with
   | true=>rw [hh,decide_eq_false (o2 hh)] at hx; cases hx
   | false=>rw [hh,decide_eq_true (o3 hc hh)] at hx; cases hx
theorem gd32 {l last pd sd mb zd wd ed ms n0 n1 n2 : D} {pa j : Int} {m : Mb} {li : List Int} (h : NOk s 3 G t) (ht : t ≤ 99) (hw : NW 3 [n0,n1,n2] mb ms s) (hm : s.mbs[2]? = some m) (hl : s.nums[2]? = some li) (w0 : World) (H : HV) (hk : Runs Try.prog ⟨w0,H⟩ (gcL l pa last j mb 3 (noV 3 [n0,n1,n2] s.now s.co pd sd mb zd wd ed ms s.whole)) R) : ∀ q w : Nat,w + q = li.length →
  Runs Try.prog ⟨w0,H⟩ (gd32L l pa last j w s.now s.co pd sd mb zd wd ed ms n0 n1 n2 s.whole) R
 | 0,w,hq=>by
  obtain ⟨x1,x2,x3⟩ := hw.ns 2 _ _ rfl hl
  have hxl := D.Is.length (α := Int) n2
  rw [x3] at hxl
  have hwi : IntKind.i64.wrap ((2 : Int) + 1) = 3 := by decide
  refine unroll_sound rfl ?_
  apply execRE_sound ctGdOk [33] 400
  rw [gd32_go]
  simp only [hwi]
  exact ⟨fun hc=>absurd (of_decide_eq_true hc) (by omega),fun _=>hk⟩
 | q + 1,w,hq=>by
  obtain ⟨x1,x2,x3⟩ := hw.ns 2 _ _ rfl hl
  have hxl := D.Is.length (α := Int) n2
  rw [x3] at hxl
  have hwl : w < (n2.to Int).length := by rw [x3]; omega
  obtain ⟨d1,d2,d3⟩ := int_at x1 hwl
  simp only [Int.toNat_natCast] at d2 d3
  obtain ⟨mo,mg,mw,mh⟩ := h.mok 2 m hm
  obtain ⟨b1,b2,b3,b4,b5⟩ := mb_right hw.mb hm ⟨by omega,by omega⟩
  have w1 : (mb.cell 2 6).to Int = m.waiting := congrArg Mb.waiting b4
  have w2 : (mb.cell 2 7).to Int = m.held := congrArg Mb.held b4
  have c1 : (mb.cell 2 6).Is Int ∧ (mb.cell 2 6).len ≤ 1048576 := ⟨b3.1,by rw [D.Is.length (α := Int),w1]; omega⟩
  have c2 : (mb.cell 2 7).Is Int ∧ (mb.cell 2 7).len ≤ 1048576 := ⟨b3.2.1,by rw [D.Is.length (α := Int),w2]; omega⟩
  have ce : (likeEv ed s.whole.events).Is Ev ∧ (likeEv ed s.whole.events).len ≤ 1048576 := ⟨D.like_is _ _,by have := ((h.hsm (by omega)).right zd wd ed).2; omega⟩
  have hlw : w < li.length := by omega
  have hkv : n2.getInt w 0 = li[w] := by rw [d3]; simp only [x3]
  have he : hasEv (D.to Ev (likeEv ed s.whole.events)) (EvD.mk 1 (n2.getInt w 0)).ev = decide ((⟨1,li[w]⟩ : Ev) ∈ s.whole.events) := by
   unfold hasEv; rw [show D.to Ev (likeEv ed s.whole.events) = s.whole.events from D.like_to _ _,hkv]; rfl
  obtain ⟨o1,o2,o3⟩ := open_iff h hm hl hlw
  have hwi : IntKind.i64.wrap ((2 : Int) + 1) = 3 := by decide
  have hww : IntKind.i64.wrap ((w : Int) + 1) = ((w + 1 : Nat) : Int) := by rw [wrap64J (by have := h.til 2 li hl; omega) (by have := h.til 2 li hl; omega)]; rfl
  have ih := gd32 h ht hw hm hl w0 H hk q (w + 1) (by omega)
  refine unroll_sound rfl ?_
  apply execRE_sound ctGdOk [33] 400
  rw [gd32_go]
  simp only [Int.toNat_natCast,he,w1,w2,hww,hwi]
  refine ⟨fun _=>⟨⟨by omega,by omega,x2⟩,⟨d2,x2⟩,c1,fun hc=>⟨ce,fun hx=>?_,fun _=>ih⟩,fun hc=>⟨c2,ce,fun hx=>?_,fun _=>ih⟩⟩,fun hc=>absurd (of_decide_eq_false hc) (by omega)⟩
  ·have hn := o1 hc
   rw [decide_eq_false hn] at hx; exact absurd hx (by decide)
  ·have hx := of_decide_eq_true hx
   cases hh : m.held.contains (w : Int) with
   | true=>rw [hh,decide_eq_false (o2 hh)] at hx; cases hx
   | false=>rw [hh,decide_eq_true (o3 hc hh)] at hx; cases hx
theorem gc3_all {l last pd sd mb zd wd ed ms n0 n1 n2 : D} {pa j : Int} (h : NOk s 3 G t) (ht : t ≤ 99) (hw : NW 3 [n0,n1,n2] mb ms s) (w0 : World) (H : HV) (hk : ∀ mm,NodMem 3 s mm → Runs Try.prog ⟨w0,H⟩ (gaL l pa last (IntKind.i64.wrap (j + 1)) mm) R) : Runs Try.prog ⟨w0,H⟩ (gcL l pa last j mb 0 (noV 3 [n0,n1,n2] s.now s.co pd sd mb zd wd ed ms s.whole)) R := by
 have hmbl : mb.len = 3 := by rw [D.Is.length (α := Mb),hw.mb.2.2,h.nb]
 have hmem : NodMem 3 s (noM 3 [n0,n1,n2] s.now s.co pd sd mb zd wd ed ms s.whole) := ⟨_,_,_,_,_,_,_,_,hw,rfl⟩
 have c3 : Runs Try.prog ⟨w0,H⟩ (gcL l pa last j mb 3 (noV 3 [n0,n1,n2] s.now s.co pd sd mb zd wd ed ms s.whole)) R := by
  refine unroll_sound rfl ?_
  refine cut_soundE ctGrOk (gc33_go ..) ?_
  exact ⟨decide_eq_false (by omega),runs_nod 3 (hk _ hmem)⟩
 have c2 : Runs Try.prog ⟨w0,H⟩ (gcL l pa last j mb 2 (noV 3 [n0,n1,n2] s.now s.co pd sd mb zd wd ed ms s.whole)) R := by
  obtain ⟨m,hm⟩ : ∃ m,s.mbs[2]? = some m := ⟨_,List.getElem?_eq_getElem (by rw [h.nb]; omega)⟩
  obtain ⟨li,hl⟩ : ∃ l,s.nums[2]? = some l := ⟨_,List.getElem?_eq_getElem (by rw [h.nn]; omega)⟩
  obtain ⟨mo,mg,mw,mh⟩ := h.mok 2 m hm
  obtain ⟨b1,b2,b3,b4,b5⟩ := mb_right hw.mb hm ⟨by omega,by omega⟩
  refine unroll_sound rfl ?_
  apply execRE_sound ctGrOk [33] 400
  rw [gc32_go]
  exact ⟨fun _=>⟨b1,⟨b2,hw.mb.2.1⟩,by decide,gd32 h ht hw hm hl w0 H c3 li.length 0 (by omega)⟩,fun hc=>absurd (of_decide_eq_false hc) (by omega)⟩
 have c1 : Runs Try.prog ⟨w0,H⟩ (gcL l pa last j mb 1 (noV 3 [n0,n1,n2] s.now s.co pd sd mb zd wd ed ms s.whole)) R := by
  obtain ⟨m,hm⟩ : ∃ m,s.mbs[1]? = some m := ⟨_,List.getElem?_eq_getElem (by rw [h.nb]; omega)⟩
  obtain ⟨li,hl⟩ : ∃ l,s.nums[1]? = some l := ⟨_,List.getElem?_eq_getElem (by rw [h.nn]; omega)⟩
  obtain ⟨mo,mg,mw,mh⟩ := h.mok 1 m hm
  obtain ⟨b1,b2,b3,b4,b5⟩ := mb_right hw.mb hm ⟨by omega,by omega⟩
  refine unroll_sound rfl ?_
  apply execRE_sound ctGrOk [33] 400
  rw [gc31_go]
  exact ⟨fun _=>⟨b1,⟨b2,hw.mb.2.1⟩,by decide,gd31 h ht hw hm hl w0 H c2 li.length 0 (by omega)⟩,fun hc=>absurd (of_decide_eq_false hc) (by omega)⟩
 have c0 : Runs Try.prog ⟨w0,H⟩ (gcL l pa last j mb 0 (noV 3 [n0,n1,n2] s.now s.co pd sd mb zd wd ed ms s.whole)) R := by
  obtain ⟨m,hm⟩ : ∃ m,s.mbs[0]? = some m := ⟨_,List.getElem?_eq_getElem (by rw [h.nb]; omega)⟩
  obtain ⟨li,hl⟩ : ∃ l,s.nums[0]? = some l := ⟨_,List.getElem?_eq_getElem (by rw [h.nn]; omega)⟩
  obtain ⟨mo,mg,mw,mh⟩ := h.mok 0 m hm
  obtain ⟨b1,b2,b3,b4,b5⟩ := mb_right hw.mb hm ⟨by omega,by omega⟩
  refine unroll_sound rfl ?_
  apply execRE_sound ctGrOk [33] 400
  rw [gc30_go]
  exact ⟨fun _=>⟨b1,⟨b2,hw.mb.2.1⟩,by decide,gd30 h ht hw hm hl w0 H c1 li.length 0 (by omega)⟩,fun hc=>absurd (of_decide_eq_false hc) (by omega)⟩
 exact c0
theorem gb3_all {l last p pd sd mb zd wd ed ms n0 n1 n2 : D} {pa j : Int} (hp : p.Is Int) (hla : last.Is Int) (hll : last.len ≤ 100) (hc : ∀ i : Nat,i < (last.to Int).length → ∃ a b,(last.to Int)[i]? = some a ∧ (p.to Int)[i]? = some b ∧ a ≤ b) (w0 : World) (H : HV) (hk : Runs Try.prog ⟨w0,H⟩ (gcL l pa p j mb 0 (noV 3 [n0,n1,n2] s.now s.co pd sd mb zd wd ed ms s.whole)) R) : ∀ q i : Nat,i + q = last.len →
  Runs Try.prog ⟨w0,H⟩ (gbL l pa last j p i (noV 3 [n0,n1,n2] s.now s.co pd sd mb zd wd ed ms s.whole)) R
 | 0,i,hq=>by
  refine unroll_sound rfl ?_
  apply execRE_sound ctGrOk [33] 400
  rw [gb3_go]
  exact ⟨fun hc=>absurd (of_decide_eq_true hc) (by omega),fun _=>hk⟩
 | q + 1,i,hq=>by
  have hlen := D.Is.length (α := Int) last
  have hplen := D.Is.length (α := Int) p
  have hi : i < (last.to Int).length := by omega
  obtain ⟨a,b,ha,hb,hab⟩ := hc i hi
  have hip : i < (p.to Int).length := (List.getElem?_eq_some_iff.1 hb).1
  obtain ⟨a1,a2,a3⟩ := int_at hla hi
  obtain ⟨b1,b2,b3⟩ := int_at hp hip
  have e1 : (last.to Int)[i] = a := (List.getElem?_eq_some_iff.1 ha).2
  have e2 : (p.to Int)[i] = b := (List.getElem?_eq_some_iff.1 hb).2
  rw [e1] at a3
  rw [e2] at b3
  have f1 : decide ((i : Int) ≥ (p.len : Int)) = false := decide_eq_false (by omega)
  have ih := gb3_all hp hla hll hc w0 H hk q (i + 1) (by omega)
  have hww : IntKind.i64.wrap ((i : Int) + 1) = ((i + 1 : Nat) : Int) := by rw [wrap64J (by omega) (by omega)]; rfl
  refine unroll_sound rfl ?_
  apply execRE_sound ctGrOk [33] 400
  rw [gb3_go]
  simp only [hww]
  refine ⟨fun _ hs=>⟨fun hx=>absurd (f1.symm.trans hx) (by decide),fun _=>⟨f1,f1,f1,b1,f1,b2,f1,f1,f1,a1,f1,a2,f1,f1,fun hx=>?_,fun _=>ih⟩⟩,fun hx=>absurd (of_decide_eq_false hx) (by omega)⟩
  have hx := of_decide_eq_true hx
  rw [a3,b3] at hx
  omega
end
theorem of1 {s : NdS} {mm : Mem} (h : NodMem 1 s mm) : ∃ (n0 pd sd mb zd wd ed ms : D),NW 1 [n0] mb ms s ∧ mm = noM 1 [n0] s.now s.co pd sd mb zd wd ed ms s.whole := by
 obtain ⟨ns,pd,sd,mb,zd,wd,ed,ms,hw,he⟩ := h
 have hnl := hw.len.1
 match ns,hnl,hw with
 | [n0],_,hw=>exact ⟨n0,pd,sd,mb,zd,wd,ed,ms,hw,he⟩
theorem ga1_loop {l : D} (hl : l.Is Sch) (hlen : l.len ≤ 60) (pa : Int) (w0 : World) (H : HV) : ∀ (q j : Nat) {s : NdS} {G : Gh} {mm : Mem} {last : D},j + q = l.len → NOk s 1 G j → NodMem 1 s mm → last.Is Int → LastG (last.to Int) s.co 1 G → Runs Try.prog ⟨w0,H⟩ (gaL l pa last j mm) (RetS w0 H (.lb true))
 | 0,j,s,G,mm,last,hj,h,hm,hla,hlg=>by
  obtain ⟨n0,pd,sd,mb,zd,wd,ed,ms,hw,rfl⟩ := of1 hm
  refine unroll_sound rfl ?_
  apply execRE_sound ctGrOk [33] 400
  rw [ga1_go]
  exact ⟨fun hc=>absurd (of_decide_eq_true hc) (by omega),fun _=>leaf_ret (f := Try.f6) (l := [.lb true]) (by kernel_rfl) (by kernel_rfl) ret_lbt⟩
 | q + 1,j,s,G,mm,last,hj,h,hm,hla,hlg=>by
  have hm0 := hm
  have hlt : j < (l.to Sch).length := by rw [← D.Is.length (α := Sch)]; omega
  have hcell := sch_cell hl hlt
  have hsz : l.sz = 3 := hl.size hlt
  have hww : IntKind.i64.wrap ((j : Int) + 1) = ((j + 1 : Nat) : Int) := by rw [wrap64J (by omega) (by omega)]; rfl
  obtain ⟨n0,pd,sd,mb,zd,wd,ed,ms,hw,rfl⟩ := of1 hm
  refine unroll_sound rfl ?_
  apply execRE_sound ctGrOk [33] 400
  rw [ga1_go]
  refine ⟨fun _=>⟨⟨by omega,by omega,hsz⟩,hcell,by decide,?_⟩,fun hc=>absurd (of_decide_eq_false hc) (by omega)⟩
  refine nmeth_law (step_meth h (by omega) _ _ _ _) (g := gaF l pa last j) (noM 1 [n0] s.now s.co pd sd mb zd wd ed ms s.whole) hm0 fun s' m'' ⟨⟨G',hn,hG,hr⟩,_⟩ hm''=>?_
  have hlg' := hlg.mono hG hr
  clear hm0 hw
  obtain ⟨n0,pd,sd,mb,zd,wd,ed,ms,hw,rfl⟩ := of1 hm''
  have hll : last.len ≤ 100 := by
   rw [D.Is.length (α := Int)]
   rcases hlg' with e | ⟨e,_⟩
   ·rw [e]; exact Nat.zero_le _
   ·rw [e]; omega
  apply execRE_sound ctGrOk [33] 400
  rw [ga1_k1]
  simp only [co_back]
  refine ⟨⟨D.like_is _ _,D.like_is _ _⟩,fun hs=>⟨fun hv=>?_,fun _=>?_⟩⟩
  ·obtain ⟨l1,l2⟩ := hn.later hlg' hv
   refine gb1_all (D.like_is _ _) hla hll (by rw [D.like_to]; exact l1) w0 H ?_ last.len 0 (by omega)
   exact gc1_all hn (by omega) hw w0 H fun mm hmm=>by
    rw [hww]
    exact ga1_loop hl hlen pa w0 H q (j + 1) (by omega) hn hmm (D.like_is _ _) (by rw [D.like_to]; exact l2)
  ·exact gc1_all hn (by omega) hw w0 H fun mm hmm=>by
    rw [hww]
    exact ga1_loop hl hlen pa w0 H q (j + 1) (by omega) hn hmm hla hlg'
theorem tb1 {l : D} (hl : l.Is Sch) (pa : Int) (w0 : World) (H : HV) {mm : Mem} (hm : NodMem 1 (begS 1) mm) : Runs Try.prog ⟨w0,H⟩ (backW (.tup [.ptr 100000 0,.lb true]) (tbF pa l) mm) (RetS w0 H (.lb true)) := by
 have hm0 := hm
 obtain ⟨n0,pd,sd,mb,zd,wd,ed,ms,hw,rfl⟩ := of1 hm
 apply execRE_sound ctGrOk [33] 400
 rw [tb1_k0]
 refine ⟨fun _=>leaf_ret (f := Try.f6) (l := [.lb true]) (by kernel_rfl) (by kernel_rfl) ret_lbt,fun hc=>?_⟩
 have hc := of_decide_eq_false hc
 refine nilSlot_to 9 (gaL l pa (.slc none 1 []) 0 (noV 1 [n0] (begS 1).now (begS 1).co pd sd mb zd wd ed ms (begS 1).whole)) (by kernel_rfl) ?_
 exact runs_nod 1 (ga1_loop hl (by omega) pa w0 H l.len 0 (by omega) (begS_ok (by omega)) hm0 (is_nil _ _) (.inl rfl))
theorem of2 {s : NdS} {mm : Mem} (h : NodMem 2 s mm) : ∃ (n0 n1 pd sd mb zd wd ed ms : D),NW 2 [n0,n1] mb ms s ∧ mm = noM 2 [n0,n1] s.now s.co pd sd mb zd wd ed ms s.whole := by
 obtain ⟨ns,pd,sd,mb,zd,wd,ed,ms,hw,he⟩ := h
 have hnl := hw.len.1
 match ns,hnl,hw with
 | [n0,n1],_,hw=>exact ⟨n0,n1,pd,sd,mb,zd,wd,ed,ms,hw,he⟩
theorem ga2_loop {l : D} (hl : l.Is Sch) (hlen : l.len ≤ 60) (pa : Int) (w0 : World) (H : HV) : ∀ (q j : Nat) {s : NdS} {G : Gh} {mm : Mem} {last : D},j + q = l.len → NOk s 2 G j → NodMem 2 s mm → last.Is Int → LastG (last.to Int) s.co 2 G → Runs Try.prog ⟨w0,H⟩ (gaL l pa last j mm) (RetS w0 H (.lb true))
 | 0,j,s,G,mm,last,hj,h,hm,hla,hlg=>by
  obtain ⟨n0,n1,pd,sd,mb,zd,wd,ed,ms,hw,rfl⟩ := of2 hm
  refine unroll_sound rfl ?_
  apply execRE_sound ctGrOk [33] 400
  rw [ga2_go]
  exact ⟨fun hc=>absurd (of_decide_eq_true hc) (by omega),fun _=>leaf_ret (f := Try.f6) (l := [.lb true]) (by kernel_rfl) (by kernel_rfl) ret_lbt⟩
 | q + 1,j,s,G,mm,last,hj,h,hm,hla,hlg=>by
  have hm0 := hm
  have hlt : j < (l.to Sch).length := by rw [← D.Is.length (α := Sch)]; omega
  have hcell := sch_cell hl hlt
  have hsz : l.sz = 3 := hl.size hlt
  have hww : IntKind.i64.wrap ((j : Int) + 1) = ((j + 1 : Nat) : Int) := by rw [wrap64J (by omega) (by omega)]; rfl
  obtain ⟨n0,n1,pd,sd,mb,zd,wd,ed,ms,hw,rfl⟩ := of2 hm
  refine unroll_sound rfl ?_
  apply execRE_sound ctGrOk [33] 400
  rw [ga2_go]
  refine ⟨fun _=>⟨⟨by omega,by omega,hsz⟩,hcell,by decide,?_⟩,fun hc=>absurd (of_decide_eq_false hc) (by omega)⟩
  refine nmeth_law (step_meth h (by omega) _ _ _ _) (g := gaF l pa last j) (noM 2 [n0,n1] s.now s.co pd sd mb zd wd ed ms s.whole) hm0 fun s' m'' ⟨⟨G',hn,hG,hr⟩,_⟩ hm''=>?_
  have hlg' := hlg.mono hG hr
  clear hm0 hw
  obtain ⟨n0,n1,pd,sd,mb,zd,wd,ed,ms,hw,rfl⟩ := of2 hm''
  have hll : last.len ≤ 100 := by
   rw [D.Is.length (α := Int)]
   rcases hlg' with e | ⟨e,_⟩
   ·rw [e]; exact Nat.zero_le _
   ·rw [e]; omega
  apply execRE_sound ctGrOk [33] 400
  rw [ga2_k1]
  simp only [co_back]
  refine ⟨⟨D.like_is _ _,D.like_is _ _⟩,fun hs=>⟨fun hv=>?_,fun _=>?_⟩⟩
  ·obtain ⟨l1,l2⟩ := hn.later hlg' hv
   refine gb2_all (D.like_is _ _) hla hll (by rw [D.like_to]; exact l1) w0 H ?_ last.len 0 (by omega)
   exact gc2_all hn (by omega) hw w0 H fun mm hmm=>by
    rw [hww]
    exact ga2_loop hl hlen pa w0 H q (j + 1) (by omega) hn hmm (D.like_is _ _) (by rw [D.like_to]; exact l2)
  ·exact gc2_all hn (by omega) hw w0 H fun mm hmm=>by
    rw [hww]
    exact ga2_loop hl hlen pa w0 H q (j + 1) (by omega) hn hmm hla hlg'
theorem tb2 {l : D} (hl : l.Is Sch) (pa : Int) (w0 : World) (H : HV) {mm : Mem} (hm : NodMem 2 (begS 2) mm) : Runs Try.prog ⟨w0,H⟩ (backW (.tup [.ptr 100000 0,.lb true]) (tbF pa l) mm) (RetS w0 H (.lb true)) := by
 have hm0 := hm
 obtain ⟨n0,n1,pd,sd,mb,zd,wd,ed,ms,hw,rfl⟩ := of2 hm
 apply execRE_sound ctGrOk [33] 400
 rw [tb2_k0]
 refine ⟨fun _=>leaf_ret (f := Try.f6) (l := [.lb true]) (by kernel_rfl) (by kernel_rfl) ret_lbt,fun hc=>?_⟩
 have hc := of_decide_eq_false hc
 refine nilSlot_to 9 (gaL l pa (.slc none 1 []) 0 (noV 2 [n0,n1] (begS 2).now (begS 2).co pd sd mb zd wd ed ms (begS 2).whole)) (by kernel_rfl) ?_
 exact runs_nod 2 (ga2_loop hl (by omega) pa w0 H l.len 0 (by omega) (begS_ok (by omega)) hm0 (is_nil _ _) (.inl rfl))
theorem of3 {s : NdS} {mm : Mem} (h : NodMem 3 s mm) : ∃ (n0 n1 n2 pd sd mb zd wd ed ms : D),NW 3 [n0,n1,n2] mb ms s ∧ mm = noM 3 [n0,n1,n2] s.now s.co pd sd mb zd wd ed ms s.whole := by
 obtain ⟨ns,pd,sd,mb,zd,wd,ed,ms,hw,he⟩ := h
 have hnl := hw.len.1
 match ns,hnl,hw with
 | [n0,n1,n2],_,hw=>exact ⟨n0,n1,n2,pd,sd,mb,zd,wd,ed,ms,hw,he⟩
theorem ga3_loop {l : D} (hl : l.Is Sch) (hlen : l.len ≤ 60) (pa : Int) (w0 : World) (H : HV) : ∀ (q j : Nat) {s : NdS} {G : Gh} {mm : Mem} {last : D},j + q = l.len → NOk s 3 G j → NodMem 3 s mm → last.Is Int → LastG (last.to Int) s.co 3 G → Runs Try.prog ⟨w0,H⟩ (gaL l pa last j mm) (RetS w0 H (.lb true))
 | 0,j,s,G,mm,last,hj,h,hm,hla,hlg=>by
  obtain ⟨n0,n1,n2,pd,sd,mb,zd,wd,ed,ms,hw,rfl⟩ := of3 hm
  refine unroll_sound rfl ?_
  apply execRE_sound ctGrOk [33] 400
  rw [ga3_go]
  exact ⟨fun hc=>absurd (of_decide_eq_true hc) (by omega),fun _=>leaf_ret (f := Try.f6) (l := [.lb true]) (by kernel_rfl) (by kernel_rfl) ret_lbt⟩
 | q + 1,j,s,G,mm,last,hj,h,hm,hla,hlg=>by
  have hm0 := hm
  have hlt : j < (l.to Sch).length := by rw [← D.Is.length (α := Sch)]; omega
  have hcell := sch_cell hl hlt
  have hsz : l.sz = 3 := hl.size hlt
  have hww : IntKind.i64.wrap ((j : Int) + 1) = ((j + 1 : Nat) : Int) := by rw [wrap64J (by omega) (by omega)]; rfl
  obtain ⟨n0,n1,n2,pd,sd,mb,zd,wd,ed,ms,hw,rfl⟩ := of3 hm
  refine unroll_sound rfl ?_
  apply execRE_sound ctGrOk [33] 400
  rw [ga3_go]
  refine ⟨fun _=>⟨⟨by omega,by omega,hsz⟩,hcell,by decide,?_⟩,fun hc=>absurd (of_decide_eq_false hc) (by omega)⟩
  refine nmeth_law (step_meth h (by omega) _ _ _ _) (g := gaF l pa last j) (noM 3 [n0,n1,n2] s.now s.co pd sd mb zd wd ed ms s.whole) hm0 fun s' m'' ⟨⟨G',hn,hG,hr⟩,_⟩ hm''=>?_
  have hlg' := hlg.mono hG hr
  clear hm0 hw
  obtain ⟨n0,n1,n2,pd,sd,mb,zd,wd,ed,ms,hw,rfl⟩ := of3 hm''
  have hll : last.len ≤ 100 := by
   rw [D.Is.length (α := Int)]
   rcases hlg' with e | ⟨e,_⟩
   ·rw [e]; exact Nat.zero_le _
   ·rw [e]; omega
  apply execRE_sound ctGrOk [33] 400
  rw [ga3_k1]
  simp only [co_back]
  refine ⟨⟨D.like_is _ _,D.like_is _ _⟩,fun hs=>⟨fun hv=>?_,fun _=>?_⟩⟩
  ·obtain ⟨l1,l2⟩ := hn.later hlg' hv
   refine gb3_all (D.like_is _ _) hla hll (by rw [D.like_to]; exact l1) w0 H ?_ last.len 0 (by omega)
   exact gc3_all hn (by omega) hw w0 H fun mm hmm=>by
    rw [hww]
    exact ga3_loop hl hlen pa w0 H q (j + 1) (by omega) hn hmm (D.like_is _ _) (by rw [D.like_to]; exact l2)
  ·exact gc3_all hn (by omega) hw w0 H fun mm hmm=>by
    rw [hww]
    exact ga3_loop hl hlen pa w0 H q (j + 1) (by omega) hn hmm hla hlg'
theorem tb3 {l : D} (hl : l.Is Sch) (pa : Int) (w0 : World) (H : HV) {mm : Mem} (hm : NodMem 3 (begS 3) mm) : Runs Try.prog ⟨w0,H⟩ (backW (.tup [.ptr 100000 0,.lb true]) (tbF pa l) mm) (RetS w0 H (.lb true)) := by
 have hm0 := hm
 obtain ⟨n0,n1,n2,pd,sd,mb,zd,wd,ed,ms,hw,rfl⟩ := of3 hm
 apply execRE_sound ctGrOk [33] 400
 rw [tb3_k0]
 refine ⟨fun _=>leaf_ret (f := Try.f6) (l := [.lb true]) (by kernel_rfl) (by kernel_rfl) ret_lbt,fun hc=>?_⟩
 have hc := of_decide_eq_false hc
 refine nilSlot_to 9 (gaL l pa (.slc none 1 []) 0 (noV 3 [n0,n1,n2] (begS 3).now (begS 3).co pd sd mb zd wd ed ms (begS 3).whole)) (by kernel_rfl) ?_
 exact runs_nod 3 (ga3_loop hl (by omega) pa w0 H l.len 0 (by omega) (begS_ok (by omega)) hm0 (is_nil _ _) (.inl rfl))
theorem lawTbg : Law Try.prog 6 ((rdByt.three rdByt rdD).sp spTbg) := by
 refine law_in _ (by kernel_rfl) fun H w ⟨no,pa,l⟩ hok hp=>?_
 obtain ⟨h0,hl⟩ := hp _ (List.mem_singleton.2 rfl)
 simp only at h0 hl
 apply execRE_sound ctBgOk [31,32] 400
 rw [show (rdByt.three rdByt rdD).canon (no,pa,l) = [.int .u8 no,.int .u8 pa,.dat l] from rfl,tbg_in]
 refine ⟨by decide,?_⟩
 have h3 : Int.tmod no 3 = 0 ∨ Int.tmod no 3 = 1 ∨ Int.tmod no 3 = 2 := by
  have h1 := Int.tmod_lt_of_pos no (b := 3) (by decide)
  rw [Int.tmod_eq_emod_of_nonneg h0] at h1 ⊢
  have := Int.emod_nonneg no (b := 3) (by decide)
  omega
 rcases h3 with h3 | h3 | h3
 ·rw [show IntKind.i64.wrap (IntKind.i64.wrap (Int.tmod no 3) + 1) = 1 by rw [h3]; decide]
  refine runs_new (by kernel_rfl) (fun H _=>cb1 w H) fun v m hv=>?_
  obtain ⟨rfl,hm⟩ := hv
  exact tb1 hl pa w H hm
 ·rw [show IntKind.i64.wrap (IntKind.i64.wrap (Int.tmod no 3) + 1) = 2 by rw [h3]; decide]
  refine runs_new (by kernel_rfl) (fun H _=>cb2 w H) fun v m hv=>?_
  obtain ⟨rfl,hm⟩ := hv
  exact tb2 hl pa w H hm
 ·rw [show IntKind.i64.wrap (IntKind.i64.wrap (Int.tmod no 3) + 1) = 3 by rw [h3]; decide]
  refine runs_new (by kernel_rfl) (fun H _=>cb3 w H) fun v m hv=>?_
  obtain ⟨rfl,hm⟩ := hv
  exact tb3 hl pa w H hm
end Sv
end
