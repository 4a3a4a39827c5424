/- Layer 41: the system's right and send: their laws. -/
import Derived.Test.YtllmgnhjljmihaaVT178toVL220
import Derived.Test.YtllmgnhjljmihaaPztoVT58
import Derived.Test.YtllmgnhjljmihaaOutoFr
set_option linter.all false
set_option maxRecDepth 100000
set_option maxHeartbeats 0
section
open Go Go.Proofs Sx
namespace Sv
theorem ctSSOk : Ctrs.Ok Try.prog ctSS := by
 intro x hx
 simp only [ctSS,List.mem_cons,List.not_mem_nil,or_false] at hx
 rcases hx with rfl | rfl
 ·exact ctrOf_ok lawNxt
 ·exact ctrOf_ok lawSto
theorem seA_law {s : Sx.Sys} {b : Nat} (h : SInv s b) {o k nv m im st tf tn : D} {lo n : Nat} (hsw : SW nv m im tf tn s) (hst : Stg 65 s.staged (.view 0 5 lo n) [(0,.arr 65 st)])
  (w0 : World) (H : HV) (fp : Nat → Nat) : Runs Try.prog (@Ctx.mk w0 H (pinX fp)) (sysE 70 74 [(0,.ptr 100000 0)] (sysM o k nv m im tf tn s.r s.far s.numbers (.view 0 5 lo n) [(0,.arr 65 st)])) (RetP w0 H fp fun v m=>v = .lb true ∧ SysMem (sendS s).1 m) := by
 have hrl := h.rl o k
 have hb := h.2
 obtain ⟨⟨A,S,Sf,Af,K,hs,hk⟩,_⟩ := h
 have e0 := (sendS_ok hs).1
 have htn : tn.len = s.toNear.length := by rw [D.Is.length (α := Msg),hsw.tn.2.2]
 have hone := len_store s.far (nextRl s.r).1.number
 have hone' := len_store ⟨s.far.epoch,s.far.site,s.far.stored,s.far.applied⟩ (nextRl s.r).1.number
 apply execRS_sound ctSSOk [] 400
 rw [seA_in]
 simp only [rl_backR]
 refine ⟨hrl,fun hs0 hs1=>⟨fun h1=>?_,fun h1=>⟨fun h2=>?_,fun h2=>?_⟩⟩⟩
 ·have e : sendS s = (s,true) := by unfold sendS; rw [if_pos (.inl (by simpa using h1))]
  rw [e]
  repeat refine ⟨h1,?_⟩
  exact retS (fd := Try.f70) (l := [.lb true]) (sysM o k nv m im tf tn s.r s.far s.numbers (.view 0 5 lo n) [(0,.arr 65 st)]) [100000,100001,1,2,0]
   (smem hsw hst)
 ·have e : sendS s = (s,true) := by unfold sendS; rw [if_pos (.inr (.inl (of_decide_eq_true h2)))]
  rw [e]
  repeat first
   | refine ⟨h1,?_⟩
   | refine ⟨h2,?_⟩
  exact retS (fd := Try.f70) (l := [.lb true]) (sysM o k nv m im tf tn s.r s.far s.numbers (.view 0 5 lo n) [(0,.arr 65 st)]) [100000,100001,1,2,0]
   (smem hsw hst)
 repeat first
  | refine ⟨h1,?_⟩
  | refine ⟨h2,?_⟩
 refine ⟨fun h3=>?_,fun h3 hs2 hs3=>?_⟩
 ·have e : sendS s = (s,true) := by unfold sendS; rw [if_pos (.inr (.inr (of_decide_eq_true h3)))]
  rw [e]
  exact retS (fd := Try.f70) (l := [.lb true]) (sysM o k nv m im tf tn s.r s.far s.numbers (.view 0 5 lo n) [(0,.arr 65 st)]) [100000,100001,1,2,0]
   (smem hsw hst)
 ·have hc : ¬((nextRl s.r).2 = false ∨ (nextRl s.r).1.number ≤ s.far.stored ∨ (nextRl s.r).1.base > s.far.stored) := by
   rintro (hc | hc | hc)
   ·rw [hc] at h1; cases h1
   ·exact of_decide_eq_false h2 hc
   ·exact of_decide_eq_false h3 hc
  have e : sendS s = ({ s with far := (Sx.store s.far (nextRl s.r).1.number).1,staged := s.staged ++ [(nextRl s.r).1],toNear := s.toNear ++ (Sx.store s.far (nextRl s.r).1.number).2.1 },decide ((Sx.store s.far (nextRl s.r).1.number).2.2 = 0)) := by unfold sendS; rw [if_neg hc]
  rw [e] at e0 ⊢
  have hd : (Sx.store s.far (nextRl s.r).1.number).2.2 = 0 := of_decide_eq_true e0
  have ha := rows_app (rows_of hsw.tn.1) (rows_of (D.like_is (hs2 6 0) (Sx.store s.far (nextRl s.r).1.number).2.1))
  rw [D.like_to,hsw.tn.2.2] at ha
  obtain ⟨a1,a2⟩ := is_of (h := D.hd (hs3 16 0)) (s := 8) rfl ha
  obtain ⟨g1,g2,g3⟩ : st.sz = 5 ∧ lo + n = st.rows.length ∧ SRows Cy (st.rows.drop lo) s.staged := by cases hst; exact ⟨by assumption,by assumption,by assumption⟩
  have g4 := rows_len g3
  rw [List.length_drop] at g4
  refine ⟨⟨g2,g1,.inr rfl,by simp only [len_slc,List.length_cons,List.length_nil]; omega,by simp only [len_slc,List.length_cons,List.length_nil]; omega,by simp only [len_slc,List.length_cons,List.length_nil]; omega⟩,⟨hsw.tn.2.1,(D.like_is (α := Msg) _ _).fits,by simp only [like_leng,htn]; omega,by simp only [like_leng,htn]; omega⟩,?_⟩
  exact ret_sys 100000 [21,22,23] (fd := Try.f70) (l := [.bool (decide ((Sx.store s.far (nextRl s.r).1.number).2.2 = 0))]) (sysM o k nv m im tf (.slc (D.hd (hs3 16 0)) 8 (List.append tn.rows ((hs2 6 0).like (Sx.store s.far (nextRl s.r).1.number).2.1).rows)) s.r (Sx.store s.far (nextRl s.r).1.number).1 s.numbers (.view 0 5 (hs3 10 0).len (n + 1)) [(0,.arr 65 (.slc (D.hd (hs3 10 0)) 5 (List.append (hs3 10 0).rows (List.append (List.drop lo st.rows) [[D.int .i64 (nextRl s.r).1.base,D.int .i64 (nextRl s.r).1.number,D.int .i64 (nextRl s.r).1.time,D.like (hs0 0 0) (nextRl s.r).1.pos,D.like (hs0 0 1) (nextRl s.r).1.wr]]))))]) [100000,100001,1,2,0] (by kernel_rfl) (by kernel_rfl) (fun E=>by show Value.bool _ = _; rw [hd]; rfl) (by kernel_rfl) (by decide) (by kernel_rfl)
   ⟨_,_,_,_,_,_,_,_,_,⟨hsw.nv,hsw.m,hsw.im,hsw.tf,⟨a1,rfl,a2⟩⟩,.a _ _ _ rfl (by
    show (hs3 10 0).rows.length + (n + 1) = ((hs3 10 0).rows ++ (List.drop lo st.rows ++ [[D.int .i64 (nextRl s.r).1.base,D.int .i64 (nextRl s.r).1.number,D.int .i64 (nextRl s.r).1.time,D.like (hs0 0 0) (nextRl s.r).1.pos,D.like (hs0 0 1) (nextRl s.r).1.wr]])).length
    rw [List.length_append,List.length_append,List.length_drop,List.length_singleton]; omega) (by
    show SRows Cy (((hs3 10 0).rows ++ (List.drop lo st.rows ++ [[D.int .i64 (nextRl s.r).1.base,D.int .i64 (nextRl s.r).1.number,D.int .i64 (nextRl s.r).1.time,D.like (hs0 0 0) (nextRl s.r).1.pos,D.like (hs0 0 1) (nextRl s.r).1.wr]])).drop (hs3 10 0).rows.length) _
    rw [List.drop_left]
    exact rows_app g3 (cy_one (D.like_is _ _) (D.like_to _ _) (D.like_is _ _) (D.like_to _ _))),rfl⟩
theorem seB_law {s : Sx.Sys} {b : Nat} (h : SInv s b) {o k nv m im st tf tn : D} {lo n : Nat} (hsw : SW nv m im tf tn s) (hst : Stg 65 s.staged (.dat st) [])
  (w0 : World) (H : HV) (fp : Nat → Nat) : Runs Try.prog (@Ctx.mk w0 H (pinX fp)) (sysE 70 74 [(0,.ptr 100000 0)] (sysM o k nv m im tf tn s.r s.far s.numbers (.dat st) [])) (RetP w0 H fp fun v m=>v = .lb true ∧ SysMem (sendS s).1 m) := by
 have hrl := h.rl o k
 have hb := h.2
 obtain ⟨⟨A,S,Sf,Af,K,hs,hk⟩,_⟩ := h
 have e0 := (sendS_ok hs).1
 have htn : tn.len = s.toNear.length := by rw [D.Is.length (α := Msg),hsw.tn.2.2]
 have hone := len_store s.far (nextRl s.r).1.number
 have hone' := len_store ⟨s.far.epoch,s.far.site,s.far.stored,s.far.applied⟩ (nextRl s.r).1.number
 apply execRS_sound ctSSOk [] 400
 rw [seB_in]
 simp only [rl_backR]
 refine ⟨hrl,fun hs0 hs1=>⟨fun h1=>?_,fun h1=>⟨fun h2=>?_,fun h2=>?_⟩⟩⟩
 ·have e : sendS s = (s,true) := by unfold sendS; rw [if_pos (.inl (by simpa using h1))]
  rw [e]
  repeat refine ⟨h1,?_⟩
  exact retS (fd := Try.f70) (l := [.lb true]) (sysM o k nv m im tf tn s.r s.far s.numbers (.dat st) []) [100000,100001,1,2]
   (smem hsw hst)
 ·have e : sendS s = (s,true) := by unfold sendS; rw [if_pos (.inr (.inl (of_decide_eq_true h2)))]
  rw [e]
  repeat first
   | refine ⟨h1,?_⟩
   | refine ⟨h2,?_⟩
  exact retS (fd := Try.f70) (l := [.lb true]) (sysM o k nv m im tf tn s.r s.far s.numbers (.dat st) []) [100000,100001,1,2]
   (smem hsw hst)
 repeat first
  | refine ⟨h1,?_⟩
  | refine ⟨h2,?_⟩
 refine ⟨fun h3=>?_,fun h3 hs2 hs3=>?_⟩
 ·have e : sendS s = (s,true) := by unfold sendS; rw [if_pos (.inr (.inr (of_decide_eq_true h3)))]
  rw [e]
  exact retS (fd := Try.f70) (l := [.lb true]) (sysM o k nv m im tf tn s.r s.far s.numbers (.dat st) []) [100000,100001,1,2]
   (smem hsw hst)
 ·have hc : ¬((nextRl s.r).2 = false ∨ (nextRl s.r).1.number ≤ s.far.stored ∨ (nextRl s.r).1.base > s.far.stored) := by
   rintro (hc | hc | hc)
   ·rw [hc] at h1; cases h1
   ·exact of_decide_eq_false h2 hc
   ·exact of_decide_eq_false h3 hc
  have e : sendS s = ({ s with far := (Sx.store s.far (nextRl s.r).1.number).1,staged := s.staged ++ [(nextRl s.r).1],toNear := s.toNear ++ (Sx.store s.far (nextRl s.r).1.number).2.1 },decide ((Sx.store s.far (nextRl s.r).1.number).2.2 = 0)) := by unfold sendS; rw [if_neg hc]
  rw [e] at e0 ⊢
  have hd : (Sx.store s.far (nextRl s.r).1.number).2.2 = 0 := of_decide_eq_true e0
  have ha := rows_app (rows_of hsw.tn.1) (rows_of (D.like_is (hs2 6 0) (Sx.store s.far (nextRl s.r).1.number).2.1))
  rw [D.like_to,hsw.tn.2.2] at ha
  obtain ⟨a1,a2⟩ := is_of (h := D.hd (hs3 16 0)) (s := 8) rfl ha
  obtain ⟨g1,g2,g3⟩ : st.rows = [] ∧ st.Tight ∧ s.staged = [] := by cases hst; exact ⟨by assumption,by assumption,by assumption⟩
  have g0 : st.len = 0 := by show st.rows.length = 0; rw [g1]; rfl
  refine ⟨⟨g2,.inl g1,.inr rfl,by simp only [len_slc,List.length_cons,List.length_nil]; omega,by simp only [len_slc,List.length_cons,List.length_nil]; omega,by simp only [len_slc,List.length_cons,List.length_nil]; omega⟩,⟨hsw.tn.2.1,(D.like_is (α := Msg) _ _).fits,by simp only [like_leng,htn]; omega,by simp only [like_leng,htn]; omega⟩,?_⟩
  exact ret_sysV 100000 [21,22,23] 100000 21 5 (fd := Try.f70) (l := [.bool (decide ((Sx.store s.far (nextRl s.r).1.number).2.2 = 0))]) (sysM o k nv m im tf (.slc (D.hd (hs3 16 0)) 8 (List.append tn.rows ((hs2 6 0).like (Sx.store s.far (nextRl s.r).1.number).2.1).rows)) s.r (Sx.store s.far (nextRl s.r).1.number).1 s.numbers (.view 0 5 0 (st.rows.length + 1)) [(0,.arr 65 (.slc (D.hd (hs3 10 0)) 5 (List.append st.rows [[D.int .i64 (nextRl s.r).1.base,D.int .i64 (nextRl s.r).1.number,D.int .i64 (nextRl s.r).1.time,D.like (hs0 0 0) (nextRl s.r).1.pos,D.like (hs0 0 1) (nextRl s.r).1.wr]])))]) [100000,100001,1,2,0] (by kernel_rfl) (fun mm=>by kernel_rfl) (fun E=>by show Value.bool _ = _; rw [hd]; rfl) (by
    rw [show st.rows.length + 1 = (List.append st.rows [[D.int .i64 (nextRl s.r).1.base,D.int .i64 (nextRl s.r).1.number,D.int .i64 (nextRl s.r).1.time,D.like (hs0 0 0) (nextRl s.r).1.pos,D.like (hs0 0 1) (nextRl s.r).1.wr]]).length from (by rw [g1]; rfl)]
    kernel_rfl) (by decide) (by kernel_rfl)
   ⟨_,_,_,_,_,_,_,_,_,⟨hsw.nv,hsw.m,hsw.im,hsw.tf,⟨a1,rfl,a2⟩⟩,.a _ _ _ rfl (by rw [g1]; rfl) (by
    rw [g3]
    show SRows Cy (List.append st.rows [[D.int .i64 (nextRl s.r).1.base,D.int .i64 (nextRl s.r).1.number,D.int .i64 (nextRl s.r).1.time,D.like (hs0 0 0) (nextRl s.r).1.pos,D.like (hs0 0 1) (nextRl s.r).1.wr]]) _
    rw [g1]
    exact cy_one (D.like_is _ _) (D.like_to _ _) (D.like_is _ _) (D.like_to _ _)),rfl⟩
theorem send_meth {s : Sx.Sys} {b : Nat} (h : SInv s b) : MethOk 70 74 [(0,.ptr 100000 0)] s (sendS s).1 := by
 intro w0 H fp mm ⟨o,k,nv,m,im,tf,tn,sv,bl,hsw,hst,he⟩
 subst he
 cases hst with
 | a st lo n h1 h2 h3=>exact seA_law h hsw (.a st lo n h1 h2 h3) w0 H fp
 | b st h1 h2 h3=>exact seB_law (lo := 0) (n := 0) h hsw (.b st h1 h2 h3) w0 H fp
end Sv
end
section
open Go Go.Proofs Sx
namespace Sx
theorem cy_row {d : D} {lo : Nat} {c : Cy} {t : List Cy} (h : SRows Cy (d.rows.drop lo) (c :: t)) (hc : ∀ x,x ∈ c :: t → CyOk x) :
  d.HasCells lo 0 [.int .i64,.int .i64,.int .i64,.slc,.slc] ∧ d.HasCell lo 1 (.int .i64) ∧ (CyD.mk (d.getInt lo 0) c.number (d.getInt lo 2) (d.cell lo 3) (d.cell lo 4)).Ok ∧ (CyD.mk (d.getInt lo 0) c.number (d.getInt lo 2) (d.cell lo 3) (d.cell lo 4)).cy = c ∧ d.getInt lo 1 = c.number ∧ SRows Cy (d.rows.drop (lo + 1)) t ∧ lo < d.rows.length := by
 obtain ⟨h1,h2⟩ := h
 cases hd : d.rows.drop lo with
 | nil=>rw [hd] at h2; cases h2
 | cons r rest =>
  rw [hd] at h1 h2
  simp only [List.map_cons,List.cons.injEq] at h2
  obtain ⟨b,n,t',p,w,rfl,hp,hw⟩ := h1 r List.mem_cons_self
  have hlt : lo < d.rows.length := by
   rcases Nat.lt_or_ge lo d.rows.length with h | h
   ·exact h
   ·rw [List.drop_eq_nil_of_le h] at hd; cases hd
  rw [List.drop_eq_getElem_cons hlt,List.cons.injEq] at hd
  have hr : d.rows[lo]? = some [.int .i64 b,.int .i64 n,.int .i64 t',p,w] := by rw [List.getElem?_eq_getElem hlt,hd.1]
  have e0 : d.getInt lo 0 = b := by simp [D.getInt,D.cellAt,hr]
  have e1 : d.getInt lo 1 = n := by simp [D.getInt,D.cellAt,hr]
  have e2 : d.getInt lo 2 = t' := by simp [D.getInt,D.cellAt,hr]
  have e3 : d.cell lo 3 = p := by simp [D.cell,D.cellAt,hr]
  have e4 : d.cell lo 4 = w := by simp [D.cell,D.cellAt,hr]
  have hcy : (CyD.mk b n t' p w).cy = c := h2.1
  have hok := hc c List.mem_cons_self
  have hnn : n = c.number := by rw [← hcy]; rfl
  rw [e0,e1,e2,e3,e4,← hnn]
  obtain ⟨x1,x2,x3⟩ := hp
  obtain ⟨y1,y2,y3⟩ := hw
  refine ⟨⟨⟨b,by simp [D.cellAt,hr]⟩,⟨n,by simp [D.cellAt,hr]⟩,⟨t',by simp [D.cellAt,hr]⟩,⟨x1,x2,x3.choose,by simp [D.cellAt,hr]; exact x3.choose_spec.1⟩,⟨y1,y2,y3.choose,by simp [D.cellAt,hr]; exact y3.choose_spec.1⟩,trivial⟩,⟨n,by simp [D.cellAt,hr]⟩,⟨⟨x1,x2,x3⟩,⟨y1,y2,y3⟩,?_,?_,?_⟩,hcy,rfl,⟨fun r hr=>h1 r (List.mem_cons_of_mem _ (by rw [← hd.2]; exact hr)),by rw [hd.2]; exact h2.2⟩,hlt⟩
  ·rw [← hcy] at hok
   show p.len ≤ _
   rw [D.Is.length (α := Int)]; exact hok.1
  ·rw [← hcy] at hok
   show w.len ≤ _
   rw [D.Is.length (α := Wt)]; exact hok.2.1
  ·rw [← hcy] at hok
   exact hok.2.2
end Sx
namespace Sv
theorem ctFSOk : Ctrs.Ok Try.prog ctFS := by
 intro x hx
 simp only [ctFS,List.mem_cons,List.not_mem_nil,or_false] at hx
 rcases hx with rfl | rfl | rfl
 ·exact ctrOf_ok lawCya
 ·exact ctrOf_ok lawTAp
 ·exact ctrOf_ok lawAns
theorem faE_law {o k nv m im st tf tn ml mb : D} {mk mf mt mn mv me : Int} {s : Sx.Sys} (hbn : s.toNear.length ≤ 2000000) (hsw : SW nv m im tf tn s) (h1 : st.rows = []) (h2 : st.Tight) (h3 : s.staged = []) (w0 : World) (H : HV) (fp : Nat → Nat) :
  Runs Try.prog (@Ctx.mk w0 H (pinX fp)) (faL o k nv m im tf tn ml mb s.r s.far s.numbers mk mf mt mn mv me (.dat st) [] 3 4) (RetP w0 H fp fun v mm=>v = .lb true ∧ SysMem { s with far := (answer (s).far (MsgD.msg ⟨mk,mf,mt,mn,mv,me,ml,mb⟩)).1,toNear := (s).toNear ++ (answer (s).far (MsgD.msg ⟨mk,mf,mt,mn,mv,me,ml,mb⟩)).2 } mm) := by
 have htn : tn.len = s.toNear.length := by rw [D.Is.length (α := Msg),hsw.tn.2.2]
 have hone := len_answer s.far (MsgD.msg ⟨mk,mf,mt,mn,mv,me,ml,mb⟩)
 have hone' := len_answer ⟨s.far.epoch,s.far.site,s.far.stored,s.far.applied⟩ (MsgD.msg ⟨mk,mf,mt,mn,mv,me,ml,mb⟩)
 have g0 : st.len = 0 := by show st.rows.length = 0; rw [h1]; rfl
 refine unroll_sound rfl ?_
 apply execRS_sound ctFSOk [] 400
 rw [faE_go]
 refine fun _=>⟨fun hc=>?_,fun hc=>?_⟩
 ·rw [g0] at hc; exact absurd hc (by decide)
 ·repeat refine ⟨hc,?_⟩
  refine fun hsa hsb=>⟨⟨hsw.tn.2.1,(D.like_is (α := Msg) _ _).fits,by simp only [like_leng,htn]; omega,by simp only [like_leng,htn]; omega⟩,?_⟩
  have ha := rows_app (rows_of hsw.tn.1) (rows_of (D.like_is (hsa 5 0) (answer s.far (MsgD.msg ⟨mk,mf,mt,mn,mv,me,ml,mb⟩)).2))
  rw [D.like_to,hsw.tn.2.2] at ha
  obtain ⟨a1,a2⟩ := is_of (h := D.hd (hsb 8 0)) (s := 8) rfl ha
  exact retS (fd := Try.f28) (l := [.lb true]) (sysM o k nv m im tf (.slc (D.hd (hsb 8 0)) 8 (List.append tn.rows ((hsa 5 0).like (answer s.far (MsgD.msg ⟨mk,mf,mt,mn,mv,me,ml,mb⟩)).2).rows)) s.r (answer s.far (MsgD.msg ⟨mk,mf,mt,mn,mv,me,ml,mb⟩)).1 s.numbers (.dat st) []) [100000,100001,1,2]
   ⟨_,_,_,_,_,_,_,_,_,⟨hsw.nv,hsw.m,hsw.im,hsw.tf,⟨a1,rfl,a2⟩⟩,.b _ h1 h2 h3,rfl⟩
theorem faD_law {o k nv m im st tf tn ml mb : D} {mk mf mt mn mv me : Int} {s : Sx.Sys} {c : Cy} (hbn : s.toNear.length ≤ 1999990) (hsw : SW nv m im tf tn s) (hi : Im4 s.image) (hcy : CyOk c) (h1 : SRows Cy st.rows [c]) (h2 : st.sz = 5) (h4 : ∀ a q,st.hd = some (a,q) → q = 1) (h3 : s.staged = [c]) (hn : c.number ≤ mn) (e1 : (applyCy s.image c).2 = 0) (e2 : (applyT s.far c.number).2.2 = 0) (w0 : World) (H : HV) (fp : Nat → Nat) :
  Runs Try.prog (@Ctx.mk w0 H (pinX fp)) (faL o k nv m im tf tn ml mb s.r s.far s.numbers mk mf mt mn mv me (.dat st) [] 4 5) (RetP w0 H fp fun v mm=>v = .lb true ∧ SysMem { { s with image := (applyCy s.image c).1,far := (applyT s.far c.number).1,staged := [],toNear := s.toNear ++ (applyT s.far c.number).2.1 } with far := (answer ({ s with image := (applyCy s.image c).1,far := (applyT s.far c.number).1,staged := [],toNear := s.toNear ++ (applyT s.far c.number).2.1 }).far (MsgD.msg ⟨mk,mf,mt,mn,mv,me,ml,mb⟩)).1,toNear := ({ s with image := (applyCy s.image c).1,far := (applyT s.far c.number).1,staged := [],toNear := s.toNear ++ (applyT s.far c.number).2.1 }).toNear ++ (answer ({ s with image := (applyCy s.image c).1,far := (applyT s.far c.number).1,staged := [],toNear := s.toNear ++ (applyT s.far c.number).2.1 }).far (MsgD.msg ⟨mk,mf,mt,mn,mv,me,ml,mb⟩)).2 } mm) := by
 have htn : tn.len = s.toNear.length := by rw [D.Is.length (α := Msg),hsw.tn.2.2]
 have hone := len_applyT s.far c.number
 have hone' := len_applyT ⟨s.far.epoch,s.far.site,s.far.stored,s.far.applied⟩ c.number
 have hl : st.rows.length = 1 := rows_len h1
 obtain ⟨k1,k2,k3,k4,k5,k6,k7⟩ := cy_row (d := st) (lo := 0) (by simpa using h1) (fun x hx=>by rw [List.mem_singleton.1 hx]; exact hcy)
 have hlen : st.len = 1 := hl
 have him := im_len hsw.im.1 hsw.im.2 hi
 refine unroll_sound rfl ?_
 apply execRS_sound ctFSOk [] 400
 rw [faD_go]
 simp only [k4,k5,hsw.im.2,hlen]
 refine fun _=>⟨fun hc=>?_,fun hc=>absurd hc (by decide)⟩
 have z : (0 : Int) ≤ 0 ∧ (0 : Int) < ((1 : Nat) : Int) ∧ st.sz = 5 := ⟨by decide,by decide,h2⟩
 have hnn : decide (c.number ≤ mn) = true := decide_eq_true hn
 repeat first
  | refine ⟨hc,?_⟩
  | refine ⟨z,?_⟩
  | refine ⟨k2,?_⟩
  | fail
 refine ⟨fun hm=>?_,fun hm=>by rw [hnn] at hm; cases hm⟩
 refine fun _=>⟨z,k1,⟨hsw.im.1,him,k3⟩,fun hs1=>⟨z,k2,fun h=>?_,fun _=>⟨fun h=>?_,fun _ hs2=>⟨⟨by decide,by decide,Int.le_refl _,.inr h2⟩,⟨hsw.tn.2.1,(D.like_is (α := Msg) _ _).fits,by simp only [like_leng,htn]; omega,by simp only [like_leng,htn]; omega⟩,?_⟩⟩⟩⟩
 ·rw [e1] at h; cases h
 ·exact absurd h (by show ¬((applyT s.far c.number).2.2 != 0) = true; rw [e2]; decide)
 have ha := rows_app (rows_of hsw.tn.1) (rows_of (D.like_is (hs1 11 0) (applyT s.far c.number).2.1))
 rw [D.like_to,hsw.tn.2.2] at ha
 obtain ⟨a1,a2⟩ := is_of (h := D.hd (hs2 16 0)) (s := 8) rfl ha
 exact faE_law (s := { s with image := (applyCy s.image c).1,far := (applyT s.far c.number).1,staged := [],toNear := s.toNear ++ (applyT s.far c.number).2.1 }) (by simp only [List.length_append]; omega) ⟨hsw.nv,hsw.m,⟨D.like_is _ _,D.like_to _ _⟩,hsw.tf,⟨a1,rfl,a2⟩⟩
  (by show (st.rows.drop 1).take _ = []; rw [List.drop_eq_nil_of_le (by omega)]; rfl)
  (fun a q hq=>by
   simp only [D.sub,D.hd,Option.map_eq_some_iff] at hq
   obtain ⟨⟨a',q'⟩,hq1,hq2⟩ := hq
   have := h4 a' q' hq1
   subst this
   simp only [Prod.mk.injEq] at hq2
   show q = ((st.rows.drop 1).take _).length
   rw [List.drop_eq_nil_of_le (by omega)]
   simp
   omega) rfl w0 H fp
theorem faV_law {ml mb : D} {mk mf mt mn mv me : Int} (w0 : World) (H : HV) (fp : Nat → Nat) : ∀ (q : Nat) {o k nv m im st tf tn : D} {lo n : Nat} {s : Sx.Sys} (_ : s.staged.length = q) (_ : ∃ A S Sf Af K,SysOk s A S Sf Af K) (_ : s.toNear.length + q ≤ 1999990) (_ : SW nv m im tf tn s) (_ : st.sz = 5) (_ : lo + n = st.rows.length) (_ : SRows Cy (st.rows.drop lo) s.staged),
  Runs Try.prog (@Ctx.mk w0 H (pinX fp)) (faL o k nv m im tf tn ml mb s.r s.far s.numbers mk mf mt mn mv me (.view 3 5 lo n) [(3,.arr 65 st)] 4 5) (RetP w0 H fp fun v mm=>v = .lb true ∧ SysMem { (farL q s mn).1 with far := (answer ((farL q s mn).1).far (MsgD.msg ⟨mk,mf,mt,mn,mv,me,ml,mb⟩)).1,toNear := ((farL q s mn).1).toNear ++ (answer ((farL q s mn).1).far (MsgD.msg ⟨mk,mf,mt,mn,mv,me,ml,mb⟩)).2 } mm)
 | 0,o,k,nv,m,im,st,tf,tn,lo,n,s,hq,hok,hbn,hsw,h1,h2,h3=>by
  have hl := rows_len h3
  rw [List.length_drop,hq] at hl
  have hn0 : n = 0 := by omega
  have htn : tn.len = s.toNear.length := by rw [D.Is.length (α := Msg),hsw.tn.2.2]
  have hone := len_answer s.far (MsgD.msg ⟨mk,mf,mt,mn,mv,me,ml,mb⟩)
  have hone' := len_answer ⟨s.far.epoch,s.far.site,s.far.stored,s.far.applied⟩ (MsgD.msg ⟨mk,mf,mt,mn,mv,me,ml,mb⟩)
  have g1 : lo + n ≤ st.len := by show lo + n ≤ st.rows.length; omega
  refine unroll_sound rfl ?_
  apply execRS_sound ctFSOk [] 400
  rw [faV_go]
  refine fun _=>⟨fun hc=>?_,fun hc=>?_⟩
  ·rw [hn0] at hc; exact absurd hc (by decide)
  repeat first
   | refine ⟨hc,?_⟩
   | refine ⟨g1,?_⟩
   | fail
  refine fun hsa hsb=>⟨⟨hsw.tn.2.1,(D.like_is (α := Msg) _ _).fits,by simp only [like_leng,htn]; omega,by simp only [like_leng,htn]; omega⟩,?_⟩
  have ha := rows_app (rows_of hsw.tn.1) (rows_of (D.like_is (hsa 5 0) (answer s.far (MsgD.msg ⟨mk,mf,mt,mn,mv,me,ml,mb⟩)).2))
  rw [D.like_to,hsw.tn.2.2] at ha
  obtain ⟨a1,a2⟩ := is_of (h := D.hd (hsb 8 0)) (s := 8) rfl ha
  exact retS (fd := Try.f28) (l := [.lb true]) (sysM o k nv m im tf (.slc (D.hd (hsb 8 0)) 8 (List.append tn.rows ((hsa 5 0).like (answer s.far (MsgD.msg ⟨mk,mf,mt,mn,mv,me,ml,mb⟩)).2).rows)) s.r (answer s.far (MsgD.msg ⟨mk,mf,mt,mn,mv,me,ml,mb⟩)).1 s.numbers (.view 0 5 lo n) [(0,.arr 65 st)]) [100000,100001,1,2,0]
   ⟨_,_,_,_,_,_,_,_,_,⟨hsw.nv,hsw.m,hsw.im,hsw.tf,⟨a1,rfl,a2⟩⟩,.a _ _ _ h1 h2 h3,rfl⟩
 | q + 1,o,k,nv,m,im,st,tf,tn,lo,n,s,hq,hok,hbn,hsw,h1,h2,h3=>by
  have hl := rows_len h3
  rw [List.length_drop,hq] at hl
  have htn : tn.len = s.toNear.length := by rw [D.Is.length (α := Msg),hsw.tn.2.2]
  have hone := len_answer s.far (MsgD.msg ⟨mk,mf,mt,mn,mv,me,ml,mb⟩)
  have hone' := len_answer ⟨s.far.epoch,s.far.site,s.far.stored,s.far.applied⟩ (MsgD.msg ⟨mk,mf,mt,mn,mv,me,ml,mb⟩)
  have g1 : lo + n ≤ st.len := by show lo + n ≤ st.rows.length; omega
  have hcys : ∀ c,c ∈ s.staged → CyOk c := by
   obtain ⟨A,S,Sf,Af,K,h⟩ := hok
   intro c hc
   obtain ⟨d,hd⟩ := chain_mem h.ch hc
   rw [hd]; exact small_ok _ _ _
  have hi : Im4 s.image := by obtain ⟨A,S,Sf,Af,K,h⟩ := hok; exact h.img.2
  have him := im_len hsw.im.1 hsw.im.2 hi
  cases hst : s.staged with
  | nil=>rw [hst] at hq; cases hq
  | cons c t =>
   rw [hst] at h3 hcys hq
   simp only [List.length_cons,Nat.succ.injEq] at hq
   obtain ⟨k1,k2,k3,k4,k5,k6,k7⟩ := cy_row h3 hcys
   have k2' : st.HasCell (lo + 0) 1 (.int .i64) ∧ st.sz = 5 := ⟨k2,h1⟩
   have z : lo + n ≤ st.len ∧ (0 : Int) ≤ 0 ∧ (0 : Int) < (n : Int) ∧ st.sz = 5 := ⟨g1,by decide,by omega,h1⟩
   -- is it taken?
   by_cases hn : c.number ≤ mn
   ·-- what it leaves
    have one : (applyCy s.image c).2 = 0 ∧ (applyT s.far c.number).2.2 = 0 ∧ (∃ A S Sf Af K,SysOk { s with image := (applyCy s.image c).1,far := (applyT s.far c.number).1,staged := t,toNear := s.toNear ++ (applyT s.far c.number).2.1 } A S Sf Af K) := by
     obtain ⟨A,S,Sf,Af,K,h⟩ := hok
     obtain ⟨Af',_,f1,_,f2⟩ := farL_ok (n := mn) 1 h
     unfold farL at f1 f2
     rw [hst] at f1 f2
     simp only at f1 f2
     rw [if_pos hn] at f1 f2
     split at f1
     ·cases f1
     ·rename_i hc
      rw [if_neg hc] at f2
      simp only [not_or,ne_eq,Decidable.not_not] at hc
      exact ⟨hc.1,hc.2,_,_,_,_,_,f2⟩
    obtain ⟨e1,e2,hok1⟩ := one
    have ef : farL (q + 1) s mn = farL q { s with image := (applyCy s.image c).1,far := (applyT s.far c.number).1,staged := t,toNear := s.toNear ++ (applyT s.far c.number).2.1 } mn := by
     conv=>lhs; unfold farL
     rw [hst]
     simp only
     rw [if_pos hn,if_neg (by simp [e1,e2])]
    rw [ef]
    have hone1 := len_applyT s.far c.number
    have hone1' := len_applyT ⟨s.far.epoch,s.far.site,s.far.stored,s.far.applied⟩ c.number
    by_cases hend : n = 1 ∧ ¬st.Past (lo + 1)
    ·-- its row ends here
     obtain ⟨rfl,hp⟩ := hend
     have hq0 : q = 0 := by omega
     subst hq0
     have ht : t = [] := List.eq_nil_of_length_eq_zero hq
     subst ht
     have hcap : ∃ a,st.hd = some (a,lo + 1) := Classical.byContradiction fun hno=>hp fun a q' h he=>hno ⟨a,by rw [h,he]⟩
     obtain ⟨a0,hcap⟩ := hcap
     refine viewOut_to 3 100000 21 (st.sz = 5 ∧ lo + 1 ≤ st.len) ⟨(faL o k nv m im tf tn ml mb s.r s.far s.numbers mk mf mt mn mv me (.dat (st.sub lo (lo + 1))) [(3,.pub st)] 4 5).top,[],(faL o k nv m im tf tn ml mb s.r s.far s.numbers mk mf mt mn mv me (.dat (st.sub lo (lo + 1))) [(3,.pub st)] 4 5).mem⟩ (by kernel_rfl) ⟨h1,g1⟩ ?_
     refine runs_sub (faL o k nv m im tf tn ml mb s.r s.far s.numbers mk mf mt mn mv me (.dat (st.sub lo (lo + 1))) [] 4 5).mem ?_ ?_
     ·exact (List.Sublist.refl _).cons _ |>.cons₂ _
     have hrows : (st.sub lo (lo + 1)).rows = st.rows.drop lo := by
      show (st.rows.drop lo).take (lo + 1 - lo) = _
      rw [List.take_of_length_le (by rw [List.length_drop]; omega)]
     exact faD_law (s := s) (c := c) (st := st.sub lo (lo + 1)) (by omega) hsw hi (hcys c List.mem_cons_self) (by rw [hrows]; exact h3) h1 (fun a q' hq'=>by
      have hq'' : (D.hd st).map (fun x=>(if x.2 = lo then x.1 else x.1.add (lo * st.sz),x.2 - lo)) = some (a,q') := hq'
      rw [hcap] at hq''
      simp only [Option.map_some,Option.some.injEq,Prod.mk.injEq] at hq''
      omega) hst hn e1 e2 w0 H fp
    ·refine unroll_sound rfl ?_
     apply execRS_sound ctFSOk [] 400
     rw [faV_go]
     simp only [Nat.add_zero,k4,k5,hsw.im.2]
     refine fun _=>⟨fun hc=>?_,fun hc=>absurd (of_decide_eq_false hc) (by omega)⟩
     repeat first
      | refine ⟨hc,?_⟩
      | refine ⟨g1,?_⟩
      | refine ⟨z,?_⟩
      | refine ⟨k2',?_⟩
      | fail
     refine ⟨fun _ hs0=>⟨z,⟨k1,h1⟩,⟨hsw.im.1,him,k3⟩,fun hs1=>⟨z,k2',fun h=>?_,fun _=>⟨fun h=>?_,fun _ hs2=>⟨⟨by decide,by omega,g1,h1,?_⟩,⟨hsw.tn.2.1,(D.like_is (α := Msg) _ _).fits,by simp only [like_leng,htn]; omega,by simp only [like_leng,htn]; omega⟩,?_⟩⟩⟩⟩,fun h=>absurd (of_decide_eq_false h) (by simpa using hn)⟩
     ·rw [e1] at h; cases h
     ·exact absurd h (by show ¬((applyT s.far c.number).2.2 != 0) = true; rw [e2]; decide)
     ·by_cases h1n : n = 1
      ·exact .inr (Classical.not_not.1 fun hp=>hend ⟨h1n,hp⟩)
      ·exact .inl (by omega)
     ·have ha := rows_app (rows_of hsw.tn.1) (rows_of (D.like_is (hs1 11 0) (applyT s.far c.number).2.1))
      rw [D.like_to,hsw.tn.2.2] at ha
      obtain ⟨a1,a2⟩ := is_of (h := D.hd (hs2 16 0)) (s := 8) rfl ha
      exact faV_law w0 H fp q (s := { s with image := (applyCy s.image c).1,far := (applyT s.far c.number).1,staged := t,toNear := s.toNear ++ (applyT s.far c.number).2.1 }) hq hok1 (by simp only [List.length_append]; omega) ⟨hsw.nv,hsw.m,⟨D.like_is _ _,D.like_to _ _⟩,hsw.tf,⟨a1,rfl,a2⟩⟩ h1 (by omega) k6
   ·have ef : farL (q + 1) s mn = (s,true) := by
     unfold farL
     rw [hst]
     simp only
     rw [if_neg hn]
    rw [ef]
    refine unroll_sound rfl ?_
    apply execRS_sound ctFSOk [] 400
    rw [faV_go]
    simp only [Nat.add_zero,k5]
    refine fun _=>⟨fun hc=>?_,fun hc=>absurd (of_decide_eq_false hc) (by omega)⟩
    repeat first
     | refine ⟨hc,?_⟩
     | refine ⟨g1,?_⟩
     | refine ⟨z,?_⟩
     | refine ⟨k2',?_⟩
     | fail
    refine ⟨fun h=>absurd (of_decide_eq_true h) hn,fun h=>?_⟩
    rw [← hst] at h3
    refine fun hsa hsb=>⟨⟨hsw.tn.2.1,(D.like_is (α := Msg) _ _).fits,by simp only [like_leng,htn]; omega,by simp only [like_leng,htn]; omega⟩,?_⟩
    have ha := rows_app (rows_of hsw.tn.1) (rows_of (D.like_is (hsa 5 0) (answer s.far (MsgD.msg ⟨mk,mf,mt,mn,mv,me,ml,mb⟩)).2))
    rw [D.like_to,hsw.tn.2.2] at ha
    obtain ⟨a1,a2⟩ := is_of (h := D.hd (hsb 8 0)) (s := 8) rfl ha
    exact retS (fd := Try.f28) (l := [.lb true]) (sysM o k nv m im tf (.slc (D.hd (hsb 8 0)) 8 (List.append tn.rows ((hsa 5 0).like (answer s.far (MsgD.msg ⟨mk,mf,mt,mn,mv,me,ml,mb⟩)).2).rows)) s.r (answer s.far (MsgD.msg ⟨mk,mf,mt,mn,mv,me,ml,mb⟩)).1 s.numbers (.view 0 5 lo n) [(0,.arr 65 st)]) [100000,100001,1,2,0]
     ⟨_,_,_,_,_,_,_,_,_,⟨hsw.nv,hsw.m,hsw.im,hsw.tf,⟨a1,rfl,a2⟩⟩,.a _ _ _ h1 h2 h3,rfl⟩
end Sv
end
section
open Go Go.Proofs Sx
namespace Sv
theorem faA_law {s : Sx.Sys} {b : Nat} (h : SInv s b) {mk mf mt mn mv me : Int} {ml mb o k nv m im st tf tn : D} {lo n : Nat} (hsw : SW nv m im tf tn s) (hst : Stg 65 s.staged (.view 0 5 lo n) [(0,.arr 65 st)])
  (w0 : World) (H : HV) (fp : Nat → Nat) : Runs Try.prog (@Ctx.mk w0 H (pinX fp)) (sysE 28 116 [(0,.ptr 100000 0),(1,.agg [.int .i64 mk,.int .i64 mf,.int .i64 mt,.int .i64 mn,.int .i64 mv,.int .i64 me,.dat ml,.dat mb])] (sysM o k nv m im tf tn s.r s.far s.numbers (.view 0 5 lo n) [(0,.arr 65 st)])) (RetP w0 H fp fun v mm=>v = .lb true ∧ SysMem (atFarS s (MsgD.msg ⟨mk,mf,mt,mn,mv,me,ml,mb⟩)).1 mm) := by
 have hb := h.2
 obtain ⟨⟨A,S,Sf,Af,K,hs,hk⟩,_⟩ := h
 have htn : tn.len = s.toNear.length := by rw [D.Is.length (α := Msg),hsw.tn.2.2]
 have hone := len_answer s.far (MsgD.msg ⟨mk,mf,mt,mn,mv,me,ml,mb⟩)
 have hone' := len_answer ⟨s.far.epoch,s.far.site,s.far.stored,s.far.applied⟩ (MsgD.msg ⟨mk,mf,mt,mn,mv,me,ml,mb⟩)
 obtain ⟨g1,g2,g3⟩ : st.sz = 5 ∧ lo + n = st.rows.length ∧ SRows Cy (st.rows.drop lo) s.staged := by cases hst; exact ⟨by assumption,by assumption,by assumption⟩
 apply execRS_sound ctFSOk [] 400
 rw [faA_in]
 refine ⟨fun hc=>?_,fun hc=>?_⟩
 ·have hc : mk = 10 := of_decide_eq_true hc
  have e : (atFarS s (MsgD.msg ⟨mk,mf,mt,mn,mv,me,ml,mb⟩)).1 = { (farL s.staged.length s mn).1 with far := (answer (farL s.staged.length s mn).1.far (MsgD.msg ⟨mk,mf,mt,mn,mv,me,ml,mb⟩)).1,toNear := (farL s.staged.length s mn).1.toNear ++ (answer (farL s.staged.length s mn).1.far (MsgD.msg ⟨mk,mf,mt,mn,mv,me,ml,mb⟩)).2 } := by
   obtain ⟨Af',_,f1,_,_⟩ := farL_ok (n := mn) s.staged.length hs
   unfold atFarS
   rw [show (MsgD.msg ⟨mk,mf,mt,mn,mv,me,ml,mb⟩).kind = mk from rfl,show (MsgD.msg ⟨mk,mf,mt,mn,mv,me,ml,mb⟩).number = mn from rfl,if_pos hc]
   rw [if_neg (by rw [f1]; decide)]
  rw [e]
  exact faV_law w0 H fp s.staged.length rfl ⟨_,_,_,_,_,hs⟩ (by omega) hsw g1 g2 g3
 ·have hc : ¬mk = 10 := of_decide_eq_false hc
  have e : (atFarS s (MsgD.msg ⟨mk,mf,mt,mn,mv,me,ml,mb⟩)).1 = { s with far := (answer s.far (MsgD.msg ⟨mk,mf,mt,mn,mv,me,ml,mb⟩)).1,toNear := s.toNear ++ (answer s.far (MsgD.msg ⟨mk,mf,mt,mn,mv,me,ml,mb⟩)).2 } := by
   unfold atFarS
   rw [show (MsgD.msg ⟨mk,mf,mt,mn,mv,me,ml,mb⟩).kind = mk from rfl,if_neg hc,if_neg (fun h=>nomatch h)]
  rw [e]
  refine fun hsa hsb=>⟨⟨hsw.tn.2.1,(D.like_is (α := Msg) _ _).fits,by simp only [like_leng,htn]; omega,by simp only [like_leng,htn]; omega⟩,?_⟩
  have ha := rows_app (rows_of hsw.tn.1) (rows_of (D.like_is (hsa 5 0) (answer s.far (MsgD.msg ⟨mk,mf,mt,mn,mv,me,ml,mb⟩)).2))
  rw [D.like_to,hsw.tn.2.2] at ha
  obtain ⟨a1,a2⟩ := is_of (h := D.hd (hsb 8 0)) (s := 8) rfl ha
  exact retS (fd := Try.f28) (l := [.lb true]) (sysM o k nv m im tf (.slc (D.hd (hsb 8 0)) 8 (List.append tn.rows ((hsa 5 0).like (answer s.far (MsgD.msg ⟨mk,mf,mt,mn,mv,me,ml,mb⟩)).2).rows)) s.r (answer s.far (MsgD.msg ⟨mk,mf,mt,mn,mv,me,ml,mb⟩)).1 s.numbers (.view 0 5 lo n) [(0,.arr 65 st)]) [100000,100001,1,2,0]
   ⟨_,_,_,_,_,_,_,_,_,⟨hsw.nv,hsw.m,hsw.im,hsw.tf,⟨a1,rfl,a2⟩⟩,hst,rfl⟩
theorem faB_law {s : Sx.Sys} {b : Nat} (h : SInv s b) {mk mf mt mn mv me : Int} {ml mb o k nv m im st tf tn : D} {lo n : Nat} (hsw : SW nv m im tf tn s) (hst : Stg 65 s.staged (.dat st) [])
  (w0 : World) (H : HV) (fp : Nat → Nat) : Runs Try.prog (@Ctx.mk w0 H (pinX fp)) (sysE 28 116 [(0,.ptr 100000 0),(1,.agg [.int .i64 mk,.int .i64 mf,.int .i64 mt,.int .i64 mn,.int .i64 mv,.int .i64 me,.dat ml,.dat mb])] (sysM o k nv m im tf tn s.r s.far s.numbers (.dat st) [])) (RetP w0 H fp fun v mm=>v = .lb true ∧ SysMem (atFarS s (MsgD.msg ⟨mk,mf,mt,mn,mv,me,ml,mb⟩)).1 mm) := by
 have hb := h.2
 obtain ⟨⟨A,S,Sf,Af,K,hs,hk⟩,_⟩ := h
 have htn : tn.len = s.toNear.length := by rw [D.Is.length (α := Msg),hsw.tn.2.2]
 have hone := len_answer s.far (MsgD.msg ⟨mk,mf,mt,mn,mv,me,ml,mb⟩)
 have hone' := len_answer ⟨s.far.epoch,s.far.site,s.far.stored,s.far.applied⟩ (MsgD.msg ⟨mk,mf,mt,mn,mv,me,ml,mb⟩)
 obtain ⟨g1,g2,g3⟩ : st.rows = [] ∧ st.Tight ∧ s.staged = [] := by cases hst; exact ⟨by assumption,by assumption,by assumption⟩
 apply execRS_sound ctFSOk [] 400
 rw [faB_in]
 refine ⟨fun hc=>?_,fun hc=>?_⟩
 ·have hc : mk = 10 := of_decide_eq_true hc
  have e : (atFarS s (MsgD.msg ⟨mk,mf,mt,mn,mv,me,ml,mb⟩)).1 = { (farL s.staged.length s mn).1 with far := (answer (farL s.staged.length s mn).1.far (MsgD.msg ⟨mk,mf,mt,mn,mv,me,ml,mb⟩)).1,toNear := (farL s.staged.length s mn).1.toNear ++ (answer (farL s.staged.length s mn).1.far (MsgD.msg ⟨mk,mf,mt,mn,mv,me,ml,mb⟩)).2 } := by
   obtain ⟨Af',_,f1,_,_⟩ := farL_ok (n := mn) s.staged.length hs
   unfold atFarS
   rw [show (MsgD.msg ⟨mk,mf,mt,mn,mv,me,ml,mb⟩).kind = mk from rfl,show (MsgD.msg ⟨mk,mf,mt,mn,mv,me,ml,mb⟩).number = mn from rfl,if_pos hc]
   rw [if_neg (by rw [f1]; decide)]
  rw [e]
  have e3 : (farL s.staged.length s mn).1 = s := by rw [g3]; rfl
  rw [e3]; exact faE_law (by omega) hsw g1 g2 g3 w0 H fp
 ·have hc : ¬mk = 10 := of_decide_eq_false hc
  have e : (atFarS s (MsgD.msg ⟨mk,mf,mt,mn,mv,me,ml,mb⟩)).1 = { s with far := (answer s.far (MsgD.msg ⟨mk,mf,mt,mn,mv,me,ml,mb⟩)).1,toNear := s.toNear ++ (answer s.far (MsgD.msg ⟨mk,mf,mt,mn,mv,me,ml,mb⟩)).2 } := by
   unfold atFarS
   rw [show (MsgD.msg ⟨mk,mf,mt,mn,mv,me,ml,mb⟩).kind = mk from rfl,if_neg hc,if_neg (fun h=>nomatch h)]
  rw [e]
  refine fun hsa hsb=>⟨⟨hsw.tn.2.1,(D.like_is (α := Msg) _ _).fits,by simp only [like_leng,htn]; omega,by simp only [like_leng,htn]; omega⟩,?_⟩
  have ha := rows_app (rows_of hsw.tn.1) (rows_of (D.like_is (hsa 5 0) (answer s.far (MsgD.msg ⟨mk,mf,mt,mn,mv,me,ml,mb⟩)).2))
  rw [D.like_to,hsw.tn.2.2] at ha
  obtain ⟨a1,a2⟩ := is_of (h := D.hd (hsb 8 0)) (s := 8) rfl ha
  exact retS (fd := Try.f28) (l := [.lb true]) (sysM o k nv m im tf (.slc (D.hd (hsb 8 0)) 8 (List.append tn.rows ((hsa 5 0).like (answer s.far (MsgD.msg ⟨mk,mf,mt,mn,mv,me,ml,mb⟩)).2).rows)) s.r (answer s.far (MsgD.msg ⟨mk,mf,mt,mn,mv,me,ml,mb⟩)).1 s.numbers (.dat st) []) [100000,100001,1,2]
   ⟨_,_,_,_,_,_,_,_,_,⟨hsw.nv,hsw.m,hsw.im,hsw.tf,⟨a1,rfl,a2⟩⟩,hst,rfl⟩
theorem far_meth {s : Sx.Sys} {b : Nat} (h : SInv s b) (mk mf mt mn mv me : Int) (ml mb : D) : MethOk 28 116 [(0,.ptr 100000 0),(1,.agg [.int .i64 mk,.int .i64 mf,.int .i64 mt,.int .i64 mn,.int .i64 mv,.int .i64 me,.dat ml,.dat mb])] s (atFarS s (MsgD.msg ⟨mk,mf,mt,mn,mv,me,ml,mb⟩)).1 := by
 intro w0 H fp mm ⟨o,k,nv,m,im,tf,tn,sv,bl,hsw,hst,he⟩
 subst he
 cases hst with
 | a st lo n h1 h2 h3=>exact faA_law h hsw (.a st lo n h1 h2 h3) w0 H fp
 | b st h1 h2 h3=>exact faB_law (lo := 0) (n := 0) h hsw (.b st h1 h2 h3) w0 H fp
end Sv
end
section
open Go Go.Proofs Sx
namespace Sx
theorem msg_at {d : D} (h : d.Is Msg) {i : Nat} (hi : i < (d.to Msg).length) : (MsgD.mk (d.getInt i 0) (d.getInt i 1) (d.getInt i 2) (d.getInt i 3) (d.getInt i 4) (d.getInt i 5) (d.cell i 6) (d.cell i 7)).msg = (d.to Msg)[i] := by
 obtain ⟨_,h0,h1,h2,h3,h4,h5,_,h6,_,h7⟩ := msg_cell h hi
 simp only [MsgD.msg,h0,h1,h2,h3,h4,h5,h6,h7]
theorem max_if (x : Int) : (if x > 0 then x else 0) = max 0 x := by split <;> omega
theorem pick_under {l : List Msg} (hl : 0 < l.length) (w : Int) : ∃ (h : (Int.tmod (max 0 w) l.length).toNat < l.length),pickUnderWay l (max 0 w) = some (l[(Int.tmod (max 0 w) l.length).toNat]) ∧ 0 ≤ Int.tmod (max 0 w) l.length ∧ Int.tmod (max 0 w) l.length < l.length := by
 have h0 : 0 ≤ max 0 w := by omega
 have h1 : 0 ≤ Int.tmod (max 0 w) l.length := by rw [Int.tmod_eq_emod_of_nonneg h0]; exact Int.emod_nonneg _ (by omega)
 have h2 : Int.tmod (max 0 w) l.length < l.length := by rw [Int.tmod_eq_emod_of_nonneg h0]; exact Int.emod_lt_of_pos _ (by omega)
 refine ⟨by omega,?_,h1,h2⟩
 unfold pickUnderWay
 rw [List.getElem?_eq_getElem]
end Sx
namespace Sv
theorem ctStOk : Ctrs.Ok Try.prog ctSt := by
 intro x hx
 simp only [ctSt,List.mem_cons,List.not_mem_nil,or_false] at hx
 rcases hx with rfl | rfl
 ·exact ctrOf_ok lawCln
 ·exact ctrOf_ok lawRsd
theorem meth_call {s s' : Sx.Sys} {f : FuncId} {n : Nat} {args : List (Nat × SV)} (hm : MethOk f n args s s') {g : SFrm} {w0 : World} {H : HV} {f0 : Nat → Nat} {R : Value → World → Prop} {mem : Mem} (m' : Mem) (ks : List Nat)
  (hs : SysMem s m')
  (k : ∀ m'',SysMem s' m'' → Runs Try.prog (@Ctx.mk w0 H (pinX f0)) ⟨{ g with tmps := putS g.tmps g.await (.lb true),await := none },[],m''⟩ R)
  (hto : (moveM mem (mvOf 100000 [21,22,23] mem)).map (pickK ks) = some m' := by kernel_rfl) (hn : ks.Nodup := by decide) (hfx : (SV.fixedL (mkJ 1 args 0 n) && [g].all fun f=>SV.fixedL f.tmps) = true := by kernel_rfl) (hgp : (g.tmps.all SV.pinned && ([] : List SFrm).all fun f=>f.tmps.all SV.pinned) = true := by kernel_rfl) :
  Runs Try.prog (@Ctx.mk w0 H (pinX f0)) ⟨SFrm.mk f none none [Item.code (cA f [])] (mkJ 1 args 0 n),[g],mem⟩ R :=
 runs_to (MemTo.to _ ks hto hn) hfx (runs_methP hgp (fun H f _=>hm w0 H f m' hs) (fun v m ⟨hv,hm⟩=>by subst hv; exact k m hm))
theorem step_ka {s : Sx.Sys} {w0 : World} {H : HV} {fp : Nat → Nat} {mm : Mem} (h : SysMem s mm) : Runs Try.prog (@Ctx.mk w0 H (pinX fp)) (stK [1,1,0,1,0,1,0,0] 5 19 mm) (RetP w0 H fp fun v m=>v = .lb true ∧ SysMem s m) := by
 obtain ⟨o,k,nv,m,im,tf,tn,sv,bl,hsw,hst,he⟩ := h
 subst he
 apply execRS_sound (noCtr _) [] 100
 cases hst with
 | a st lo n h1 h2 h3 =>
  rw [kaA_in]
  exact retS (fd := Try.f24) (l := [.lb true]) (sysM o k nv m im tf tn s.r s.far s.numbers (.view 0 5 lo n) [(0,.arr 65 st)]) [100000,100001,1,2,0]
   (smem hsw (.a st lo n h1 h2 h3))
 | b st h1 h2 h3 =>
  rw [kaB_in]
  exact retS (fd := Try.f24) (l := [.lb true]) (sysM o k nv m im tf tn s.r s.far s.numbers (.dat st) []) [100000,100001,1,2]
   (smem hsw (.b st h1 h2 h3))
theorem step_ks {s : Sx.Sys} {w0 : World} {H : HV} {fp : Nat → Nat} {mm : Mem} (h : SysMem s mm) : Runs Try.prog (@Ctx.mk w0 H (pinX fp)) (stK [1,1,0,1,0,1,1,1,0,0] 2 23 mm) (RetP w0 H fp fun v m=>v = .lb true ∧ SysMem s m) := by
 obtain ⟨o,k,nv,m,im,tf,tn,sv,bl,hsw,hst,he⟩ := h
 subst he
 apply execRS_sound (noCtr _) [] 100
 cases hst with
 | a st lo n h1 h2 h3 =>
  rw [ksA_in]
  exact retS (fd := Try.f24) (l := [.lb true]) (sysM o k nv m im tf tn s.r s.far s.numbers (.view 0 5 lo n) [(0,.arr 65 st)]) [100000,100001,1,2,0]
   (smem hsw (.a st lo n h1 h2 h3))
 | b st h1 h2 h3 =>
  rw [ksB_in]
  exact retS (fd := Try.f24) (l := [.lb true]) (sysM o k nv m im tf tn s.r s.far s.numbers (.dat st) []) [100000,100001,1,2]
   (smem hsw (.b st h1 h2 h3))
theorem step_kf {s : Sx.Sys} {w0 : World} {H : HV} {fp : Nat → Nat} {mm : Mem} (h : SysMem s mm) : Runs Try.prog (@Ctx.mk w0 H (pinX fp)) (stK [1,1,0,1,0,1,1,1,1,1,0,1,0,0] 15 46 mm) (RetP w0 H fp fun v m=>v = .lb true ∧ SysMem s m) := by
 obtain ⟨o,k,nv,m,im,tf,tn,sv,bl,hsw,hst,he⟩ := h
 subst he
 apply execRS_sound (noCtr _) [] 100
 cases hst with
 | a st lo n h1 h2 h3 =>
  rw [kfA_in]
  exact retS (fd := Try.f24) (l := [.lb true]) (sysM o k nv m im tf tn s.r s.far s.numbers (.view 0 5 lo n) [(0,.arr 65 st)]) [100000,100001,1,2,0]
   (smem hsw (.a st lo n h1 h2 h3))
 | b st h1 h2 h3 =>
  rw [kfB_in]
  exact retS (fd := Try.f24) (l := [.lb true]) (sysM o k nv m im tf tn s.r s.far s.numbers (.dat st) []) [100000,100001,1,2]
   (smem hsw (.b st h1 h2 h3))
theorem stA_law {s : Sx.Sys} {b : Nat} (h : SInv s b) (xk xw xd : Int) (hn : s.numbers + 2 ≤ 1073741824) (hr : (applyS s (max 0 xw) xd).2 = true) {o k nv m im st tf tn : D} {lo n : Nat} (hsw : SW nv m im tf tn s) (hst : Stg 65 s.staged (.view 0 5 lo n) [(0,.arr 65 st)])
  (w0 : World) (H : HV) (fp : Nat → Nat) : Runs Try.prog (@Ctx.mk w0 H (pinX fp)) (sysE 24 105 [(0,.ptr 100000 0),(1,.agg [.int .i64 xk,.int .i64 xw,.int .u8 xd])] (sysM o k nv m im tf tn s.r s.far s.numbers (.view 0 5 lo n) [(0,.arr 65 st)])) (RetP w0 H fp fun v mm=>v = .lb true ∧ SysMem (stepS s (xk,xw,xd)).1 mm) := by
 have hrl := h.rl o k
 have hb := h.2
 have hall := h
 obtain ⟨⟨A,S,Sf,Af,K,hs,hk⟩,_⟩ := h
 have tfl : tf.len = s.toFar.length := by rw [D.Is.length (α := Msg),hsw.tf.2.2]
 have tnl : tn.len = s.toNear.length := by rw [D.Is.length (α := Msg),hsw.tn.2.2]
 have hoff : s.r.src.offered.length = K.length := by rw [hs.r]; simp [relR]
 have hrs := len_resend s.r.src
 apply execRE_sound ctStOk _ 400
 rw [stA_in]
 simp only [rl_backR,src_back,max_if,tfl,tnl]
 refine ⟨fun hc=>?_,fun c0=>⟨fun hc=>?_,fun c1=>⟨fun hc=>?_,fun c2=>⟨fun hc=>?_,fun c3=>⟨fun hc=>?_,fun c4=>?_⟩⟩⟩⟩⟩
 ·have hc : xk = 0 := of_decide_eq_true hc
  have e : (stepS s (xk,xw,xd)).1 = (applyS s (max 0 xw) xd).1 := by unfold stepS; rw [if_pos hc]
  rw [e]
  exact meth_call (apply_meth hall (by omega) hn hr) (g := stF [1,1,0,1,0,1,0,0] 5 19) (sysM o k nv m im tf tn s.r s.far s.numbers (.view 0 5 lo n) [(0,.arr 65 st)]) [100000,100001,1,2,0] (smem hsw hst) (fun m'' h''=>step_ka h'')
 ·have hc : xk = 1 := of_decide_eq_true hc
  have e : (stepS s (xk,xw,xd)).1 = (sendS s).1 := by unfold stepS; rw [if_neg (of_decide_eq_false c0),if_pos hc]
  rw [e]
  exact meth_call (send_meth hall) (g := stF [1,1,0,1,0,1,1,1,0,0] 2 23) (sysM o k nv m im tf tn s.r s.far s.numbers (.view 0 5 lo n) [(0,.arr 65 st)]) [100000,100001,1,2,0] (smem hsw hst) (fun m'' h''=>step_ks h'')
 ·have hc : xk = 2 := of_decide_eq_true hc
  refine ⟨fun hp=>?_,fun hp=>?_⟩
  ·have hp : 0 < s.toFar.length := by have := of_decide_eq_true hp; omega
   obtain ⟨hi,q1,q2,q3⟩ := pick_under hp xw
   have hi' : (Int.tmod (max 0 xw) s.toFar.length).toNat < (tf.to Msg).length := by rw [hsw.tf.2.2]; exact hi
   have e : (stepS s (xk,xw,xd)).1 = (atFarS s ((tf.to Msg)[(Int.tmod (max 0 xw) s.toFar.length).toNat])).1 := by
    unfold stepS
    rw [if_neg (of_decide_eq_false c0),if_neg (of_decide_eq_false c1),if_pos hc]
    simp only [q1,hsw.tf.2.2]
   rw [e,← msg_at hsw.tf.1 hi']
   refine fun _=>⟨by omega,⟨q2,q3,hsw.tf.2.1⟩,⟨(msg_cell hsw.tf.1 hi').1,hsw.tf.2.1⟩,?_⟩
   exact meth_call (far_meth hall _ _ _ _ _ _ _ _) (g := stF [1,1,0,1,0,1,1,1,1,1,0,1,0,0] 15 46) (sysM o k nv m im tf tn s.r s.far s.numbers (.view 0 5 lo n) [(0,.arr 65 st)]) [100000,100001,1,2,0] (smem hsw hst) (fun m'' h''=>step_kf h'')
  ·have hp : s.toFar = [] := List.eq_nil_of_length_eq_zero (by have := of_decide_eq_false hp; omega)
   have e : (stepS s (xk,xw,xd)).1 = s := by
    unfold stepS
    rw [if_neg (of_decide_eq_false c0),if_neg (of_decide_eq_false c1),if_pos hc]
    simp only [pickUnderWay,hp,List.getElem?_nil]
   rw [e]
   exact retS (fd := Try.f24) (l := [.lb true]) (sysM o k nv m im tf tn s.r s.far s.numbers (.view 0 5 lo n) [(0,.arr 65 st)]) [100000,100001,1,2,0] (smem hsw hst)
 ·have hc : xk = 3 := of_decide_eq_true hc
  refine ⟨fun hp=>?_,fun hp=>?_⟩
  ·have hp : 0 < s.toNear.length := by have := of_decide_eq_true hp; omega
   obtain ⟨hi,q1,q2,q3⟩ := pick_under hp xw
   have hi' : (Int.tmod (max 0 xw) s.toNear.length).toNat < (tn.to Msg).length := by rw [hsw.tn.2.2]; exact hi
   have hl := len_learnRl s.r ((tn.to Msg)[(Int.tmod (max 0 xw) s.toNear.length).toNat])
   have e : (stepS s (xk,xw,xd)).1 = learnS s ((tn.to Msg)[(Int.tmod (max 0 xw) s.toNear.length).toNat]) := by
    unfold stepS
    rw [if_neg (of_decide_eq_false c0),if_neg (of_decide_eq_false c1),if_neg (of_decide_eq_false c2),if_pos hc]
    simp only [q1,hsw.tn.2.2]
   rw [e]
   simp only [msg_at hsw.tn.1 hi']
   refine fun hs0=>⟨by omega,⟨q2,q3,hsw.tn.2.1⟩,⟨(msg_cell hsw.tn.1 hi').1,hsw.tn.2.1⟩,hrl,fun hs1=>⟨⟨hsw.tf.2.1,(D.like_is (α := Msg) _ _).fits,by simp only [like_leng]; omega,by simp only [like_leng]; omega⟩,?_⟩⟩
   have ha := rows_app (rows_of hsw.tf.1) (rows_of (D.like_is (hs0 17 2) (learnRl s.r ((tn.to Msg)[(Int.tmod (max 0 xw) s.toNear.length).toNat])).2))
   rw [D.like_to,hsw.tf.2.2] at ha
   obtain ⟨a1,a2⟩ := is_of (h := D.hd (hs1 8 0)) (s := 8) rfl ha
   exact retS (fd := Try.f24) (l := [.lb true]) (sysM (hs0 17 0) (hs0 17 1) nv m im (.slc (D.hd (hs1 8 0)) 8 (List.append tf.rows ((hs0 17 2).like (learnRl s.r ((tn.to Msg)[(Int.tmod (max 0 xw) s.toNear.length).toNat])).2).rows)) tn (learnRl s.r ((tn.to Msg)[(Int.tmod (max 0 xw) s.toNear.length).toNat])).1 s.far s.numbers (.view 0 5 lo n) [(0,.arr 65 st)]) [100000,100001,1,2,0]
    ⟨_,_,_,_,_,_,_,_,_,⟨hsw.nv,hsw.m,hsw.im,⟨a1,rfl,a2⟩,hsw.tn⟩,hst,rfl⟩
  ·have hp : s.toNear = [] := List.eq_nil_of_length_eq_zero (by have := of_decide_eq_false hp; omega)
   have e : (stepS s (xk,xw,xd)).1 = s := by
    unfold stepS
    rw [if_neg (of_decide_eq_false c0),if_neg (of_decide_eq_false c1),if_neg (of_decide_eq_false c2),if_pos hc]
    simp only [pickUnderWay,hp,List.getElem?_nil]
   rw [e]
   exact retS (fd := Try.f24) (l := [.lb true]) (sysM o k nv m im tf tn s.r s.far s.numbers (.view 0 5 lo n) [(0,.arr 65 st)]) [100000,100001,1,2,0] (smem hsw hst)
 ·have hc : xk = 4 := of_decide_eq_true hc
  have e : (stepS s (xk,xw,xd)).1 = resendS s := by
   unfold stepS
   rw [if_neg (of_decide_eq_false c0),if_neg (of_decide_eq_false c1),if_neg (of_decide_eq_false c2),if_neg (of_decide_eq_false c3),if_pos hc]
  rw [e]
  refine fun hs0=>⟨D.like_is _ _,⟨hsw.tf.2.1,(D.like_is (α := Msg) _ _).fits,by simp only [like_leng]; omega,by simp only [like_leng]; omega⟩,?_⟩
  have ha := rows_app (rows_of hsw.tf.1) (rows_of (D.like_is (hs0 10 0) (resend s.r.src)))
  rw [D.like_to,hsw.tf.2.2] at ha
  obtain ⟨a1,a2⟩ := is_of (h := D.hd (hs0 11 0)) (s := 8) rfl ha
  exact retS (fd := Try.f24) (l := [.lb true]) (sysM o k nv m im (.slc (D.hd (hs0 11 0)) 8 (List.append tf.rows ((hs0 10 0).like (resend s.r.src)).rows)) tn s.r s.far s.numbers (.view 0 5 lo n) [(0,.arr 65 st)]) [100000,100001,1,2,0]
   ⟨_,_,_,_,_,_,_,_,_,⟨hsw.nv,hsw.m,hsw.im,⟨a1,rfl,a2⟩,hsw.tn⟩,hst,rfl⟩
 ·have e : (stepS s (xk,xw,xd)).1 = s := by
   unfold stepS
   rw [if_neg (of_decide_eq_false c0),if_neg (of_decide_eq_false c1),if_neg (of_decide_eq_false c2),if_neg (of_decide_eq_false c3),if_neg (of_decide_eq_false c4)]
  rw [e]
  exact retS (fd := Try.f24) (l := [.lb true]) (sysM o k nv m im tf tn s.r s.far s.numbers (.view 0 5 lo n) [(0,.arr 65 st)]) [100000,100001,1,2,0] (smem hsw hst)
theorem stB_law {s : Sx.Sys} {b : Nat} (h : SInv s b) (xk xw xd : Int) (hn : s.numbers + 2 ≤ 1073741824) (hr : (applyS s (max 0 xw) xd).2 = true) {o k nv m im st tf tn : D} {lo n : Nat} (hsw : SW nv m im tf tn s) (hst : Stg 65 s.staged (.dat st) [])
  (w0 : World) (H : HV) (fp : Nat → Nat) : Runs Try.prog (@Ctx.mk w0 H (pinX fp)) (sysE 24 105 [(0,.ptr 100000 0),(1,.agg [.int .i64 xk,.int .i64 xw,.int .u8 xd])] (sysM o k nv m im tf tn s.r s.far s.numbers (.dat st) [])) (RetP w0 H fp fun v mm=>v = .lb true ∧ SysMem (stepS s (xk,xw,xd)).1 mm) := by
 have hrl := h.rl o k
 have hb := h.2
 have hall := h
 obtain ⟨⟨A,S,Sf,Af,K,hs,hk⟩,_⟩ := h
 have tfl : tf.len = s.toFar.length := by rw [D.Is.length (α := Msg),hsw.tf.2.2]
 have tnl : tn.len = s.toNear.length := by rw [D.Is.length (α := Msg),hsw.tn.2.2]
 have hoff : s.r.src.offered.length = K.length := by rw [hs.r]; simp [relR]
 have hrs := len_resend s.r.src
 apply execRE_sound ctStOk _ 400
 rw [stB_in]
 simp only [rl_backR,src_back,max_if,tfl,tnl]
 refine ⟨fun hc=>?_,fun c0=>⟨fun hc=>?_,fun c1=>⟨fun hc=>?_,fun c2=>⟨fun hc=>?_,fun c3=>⟨fun hc=>?_,fun c4=>?_⟩⟩⟩⟩⟩
 ·have hc : xk = 0 := of_decide_eq_true hc
  have e : (stepS s (xk,xw,xd)).1 = (applyS s (max 0 xw) xd).1 := by unfold stepS; rw [if_pos hc]
  rw [e]
  exact meth_call (apply_meth hall (by omega) hn hr) (g := stF [1,1,0,1,0,1,0,0] 5 19) (sysM o k nv m im tf tn s.r s.far s.numbers (.dat st) []) [100000,100001,1,2] (smem hsw hst) (fun m'' h''=>step_ka h'')
 ·have hc : xk = 1 := of_decide_eq_true hc
  have e : (stepS s (xk,xw,xd)).1 = (sendS s).1 := by unfold stepS; rw [if_neg (of_decide_eq_false c0),if_pos hc]
  rw [e]
  exact meth_call (send_meth hall) (g := stF [1,1,0,1,0,1,1,1,0,0] 2 23) (sysM o k nv m im tf tn s.r s.far s.numbers (.dat st) []) [100000,100001,1,2] (smem hsw hst) (fun m'' h''=>step_ks h'')
 ·have hc : xk = 2 := of_decide_eq_true hc
  refine ⟨fun hp=>?_,fun hp=>?_⟩
  ·have hp : 0 < s.toFar.length := by have := of_decide_eq_true hp; omega
   obtain ⟨hi,q1,q2,q3⟩ := pick_under hp xw
   have hi' : (Int.tmod (max 0 xw) s.toFar.length).toNat < (tf.to Msg).length := by rw [hsw.tf.2.2]; exact hi
   have e : (stepS s (xk,xw,xd)).1 = (atFarS s ((tf.to Msg)[(Int.tmod (max 0 xw) s.toFar.length).toNat])).1 := by
    unfold stepS
    rw [if_neg (of_decide_eq_false c0),if_neg (of_decide_eq_false c1),if_pos hc]
    simp only [q1,hsw.tf.2.2]
   rw [e,← msg_at hsw.tf.1 hi']
   refine fun _=>⟨by omega,⟨q2,q3,hsw.tf.2.1⟩,⟨(msg_cell hsw.tf.1 hi').1,hsw.tf.2.1⟩,?_⟩
   exact meth_call (far_meth hall _ _ _ _ _ _ _ _) (g := stF [1,1,0,1,0,1,1,1,1,1,0,1,0,0] 15 46) (sysM o k nv m im tf tn s.r s.far s.numbers (.dat st) []) [100000,100001,1,2] (smem hsw hst) (fun m'' h''=>step_kf h'')
  ·have hp : s.toFar = [] := List.eq_nil_of_length_eq_zero (by have := of_decide_eq_false hp; omega)
   have e : (stepS s (xk,xw,xd)).1 = s := by
    unfold stepS
    rw [if_neg (of_decide_eq_false c0),if_neg (of_decide_eq_false c1),if_pos hc]
    simp only [pickUnderWay,hp,List.getElem?_nil]
   rw [e]
   exact retS (fd := Try.f24) (l := [.lb true]) (sysM o k nv m im tf tn s.r s.far s.numbers (.dat st) []) [100000,100001,1,2] (smem hsw hst)
 ·have hc : xk = 3 := of_decide_eq_true hc
  refine ⟨fun hp=>?_,fun hp=>?_⟩
  ·have hp : 0 < s.toNear.length := by have := of_decide_eq_true hp; omega
   obtain ⟨hi,q1,q2,q3⟩ := pick_under hp xw
   have hi' : (Int.tmod (max 0 xw) s.toNear.length).toNat < (tn.to Msg).length := by rw [hsw.tn.2.2]; exact hi
   have hl := len_learnRl s.r ((tn.to Msg)[(Int.tmod (max 0 xw) s.toNear.length).toNat])
   have e : (stepS s (xk,xw,xd)).1 = learnS s ((tn.to Msg)[(Int.tmod (max 0 xw) s.toNear.length).toNat]) := by
    unfold stepS
    rw [if_neg (of_decide_eq_false c0),if_neg (of_decide_eq_false c1),if_neg (of_decide_eq_false c2),if_pos hc]
    simp only [q1,hsw.tn.2.2]
   rw [e]
   simp only [msg_at hsw.tn.1 hi']
   refine fun hs0=>⟨by omega,⟨q2,q3,hsw.tn.2.1⟩,⟨(msg_cell hsw.tn.1 hi').1,hsw.tn.2.1⟩,hrl,fun hs1=>⟨⟨hsw.tf.2.1,(D.like_is (α := Msg) _ _).fits,by simp only [like_leng]; omega,by simp only [like_leng]; omega⟩,?_⟩⟩
   have ha := rows_app (rows_of hsw.tf.1) (rows_of (D.like_is (hs0 17 2) (learnRl s.r ((tn.to Msg)[(Int.tmod (max 0 xw) s.toNear.length).toNat])).2))
   rw [D.like_to,hsw.tf.2.2] at ha
   obtain ⟨a1,a2⟩ := is_of (h := D.hd (hs1 8 0)) (s := 8) rfl ha
   exact retS (fd := Try.f24) (l := [.lb true]) (sysM (hs0 17 0) (hs0 17 1) nv m im (.slc (D.hd (hs1 8 0)) 8 (List.append tf.rows ((hs0 17 2).like (learnRl s.r ((tn.to Msg)[(Int.tmod (max 0 xw) s.toNear.length).toNat])).2).rows)) tn (learnRl s.r ((tn.to Msg)[(Int.tmod (max 0 xw) s.toNear.length).toNat])).1 s.far s.numbers (.dat st) []) [100000,100001,1,2]
    ⟨_,_,_,_,_,_,_,_,_,⟨hsw.nv,hsw.m,hsw.im,⟨a1,rfl,a2⟩,hsw.tn⟩,hst,rfl⟩
  ·have hp : s.toNear = [] := List.eq_nil_of_length_eq_zero (by have := of_decide_eq_false hp; omega)
   have e : (stepS s (xk,xw,xd)).1 = s := by
    unfold stepS
    rw [if_neg (of_decide_eq_false c0),if_neg (of_decide_eq_false c1),if_neg (of_decide_eq_false c2),if_pos hc]
    simp only [pickUnderWay,hp,List.getElem?_nil]
   rw [e]
   exact retS (fd := Try.f24) (l := [.lb true]) (sysM o k nv m im tf tn s.r s.far s.numbers (.dat st) []) [100000,100001,1,2] (smem hsw hst)
 ·have hc : xk = 4 := of_decide_eq_true hc
  have e : (stepS s (xk,xw,xd)).1 = resendS s := by
   unfold stepS
   rw [if_neg (of_decide_eq_false c0),if_neg (of_decide_eq_false c1),if_neg (of_decide_eq_false c2),if_neg (of_decide_eq_false c3),if_pos hc]
  rw [e]
  refine fun hs0=>⟨D.like_is _ _,⟨hsw.tf.2.1,(D.like_is (α := Msg) _ _).fits,by simp only [like_leng]; omega,by simp only [like_leng]; omega⟩,?_⟩
  have ha := rows_app (rows_of hsw.tf.1) (rows_of (D.like_is (hs0 10 0) (resend s.r.src)))
  rw [D.like_to,hsw.tf.2.2] at ha
  obtain ⟨a1,a2⟩ := is_of (h := D.hd (hs0 11 0)) (s := 8) rfl ha
  exact retS (fd := Try.f24) (l := [.lb true]) (sysM o k nv m im (.slc (D.hd (hs0 11 0)) 8 (List.append tf.rows ((hs0 10 0).like (resend s.r.src)).rows)) tn s.r s.far s.numbers (.dat st) []) [100000,100001,1,2]
   ⟨_,_,_,_,_,_,_,_,_,⟨hsw.nv,hsw.m,hsw.im,⟨a1,rfl,a2⟩,hsw.tn⟩,hst,rfl⟩
 ·have e : (stepS s (xk,xw,xd)).1 = s := by
   unfold stepS
   rw [if_neg (of_decide_eq_false c0),if_neg (of_decide_eq_false c1),if_neg (of_decide_eq_false c2),if_neg (of_decide_eq_false c3),if_neg (of_decide_eq_false c4)]
  rw [e]
  exact retS (fd := Try.f24) (l := [.lb true]) (sysM o k nv m im tf tn s.r s.far s.numbers (.dat st) []) [100000,100001,1,2] (smem hsw hst)
theorem step_meth {s : Sx.Sys} {b : Nat} (h : SInv s b) (xk xw xd : Int) (hn : s.numbers + 2 ≤ 1073741824) (hr : (applyS s (max 0 xw) xd).2 = true) : MethOk 24 105 [(0,.ptr 100000 0),(1,.agg [.int .i64 xk,.int .i64 xw,.int .u8 xd])] s (stepS s (xk,xw,xd)).1 := by
 intro w0 H fp mm ⟨o,k,nv,m,im,tf,tn,sv,bl,hsw,hst,he⟩
 subst he
 cases hst with
 | a st lo n h1 h2 h3=>exact stA_law h xk xw xd hn hr hsw (.a st lo n h1 h2 h3) w0 H fp
 | b st h1 h2 h3=>exact stB_law (lo := 0) (n := 0) h xk xw xd hn hr hsw (.b st h1 h2 h3) w0 H fp
end Sv
end
section
namespace Sx
open Go RowKit
section
variable {P : Program} {R : Value → World → Prop}
def beginC (e1 e2 : TypeId) (s1 s2 : Nat) (o1 o2 o3 : Nat) (c : Conf) : Option Conf :=
 (((((mapIn 1 .i64 false [.slc] c).bind (pinC 100000)).bind (vecIn 0 e1 s1 (some 100000) o1)).bind (vecIn 1 e2 s2 (some 100000) o2)).bind (vecIn 2 e2 s2 (some 100000) o3)).bind (viewIn 100000 o1 s1)
theorem begin_to {C : Ctx} (e1 e2 : TypeId) (s1 s2 o1 o2 o3 : Nat) {c : Conf} (c' : Conf) (hc : beginC e1 e2 s1 s2 o1 o2 o3 c = some c') (h : Runs P C c' R) (hpn : C.x.pn = none := by rfl) : Runs P C c R := by
 unfold beginC at hc
 simp only [Option.bind_eq_some_iff] at hc
 obtain ⟨c5,⟨c4,⟨c3,⟨c2,⟨c1,h1,h2⟩,h3⟩,h4⟩,h5⟩,h6⟩ := hc
 exact mapIn_to 1 .i64 false [.slc] c1 h1 (pin_to 100000 c2 h2 (vecIn_sound h3 (vecIn_sound h4 (vecIn_sound h5 (viewIn_to 100000 o1 s1 c' h6 h)))) hpn)
end
end Sx
end
section
open Go Go.Proofs Sx
namespace Sx
theorem farL_len {n : Int} : ∀ (k : Nat) (s : Sx.Sys),(farL k s n).1.staged.length ≤ s.staged.length ∧ (farL k s n).1.toFar = s.toFar ∧ (farL k s n).1.toNear.length ≤ s.toNear.length + k
 | 0,s=>⟨Nat.le_refl _,rfl,Nat.le_refl _⟩
 | k + 1,s=>by
  have base : s.staged.length ≤ s.staged.length ∧ s.toFar = s.toFar ∧ s.toNear.length ≤ s.toNear.length + (k + 1) := ⟨Nat.le_refl _,rfl,by omega⟩
  have hc : s.staged = [] ∨ ∃ c t,s.staged = c :: t := by
   cases s.staged with
   | nil=>exact .inl rfl
   | cons c t=>exact .inr ⟨c,t,rfl⟩
  rcases hc with hst | ⟨c,t,hst⟩
  ·have e : farL (k + 1) s n = (s,true) := by unfold farL; rw [hst]
   rw [e]; exact base
  ·by_cases h1 : c.number ≤ n
   ·by_cases h2 : (applyCy s.image c).2 ≠ 0 ∨ (applyT s.far c.number).2.2 ≠ 0
    ·have e : farL (k + 1) s n = (s,false) := by unfold farL; rw [hst]; simp only; rw [if_pos h1,if_pos h2]
     rw [e]; exact base
    ·have e : farL (k + 1) s n = farL k { s with image := (applyCy s.image c).1,far := (applyT s.far c.number).1,staged := t,toNear := s.toNear ++ (applyT s.far c.number).2.1 } n := by
      conv=>lhs; unfold farL
      rw [hst]; simp only; rw [if_pos h1,if_neg h2]
     rw [e]
     obtain ⟨i1,i2,i3⟩ := farL_len (n := n) k { s with image := (applyCy s.image c).1,far := (applyT s.far c.number).1,staged := t,toNear := s.toNear ++ (applyT s.far c.number).2.1 }
     have h3 := len_applyT s.far c.number
     simp only [List.length_append] at i1 i3
     exact ⟨by rw [hst]; simp only [List.length_cons]; omega,i2,by omega⟩
   ·have e : farL (k + 1) s n = (s,true) := by unfold farL; rw [hst]; simp only; rw [if_neg h1]
    rw [e]; exact base
theorem atFar_len (s : Sx.Sys) (m : Msg) : (atFarS s m).1.staged.length ≤ s.staged.length ∧ (atFarS s m).1.toFar = s.toFar ∧ (atFarS s m).1.toNear.length ≤ s.toNear.length + s.staged.length + 1 := by
 have hx : ∀ p : Sx.Sys × Bool,p = (if m.kind = 10 then farL s.staged.length s m.number else (s,true)) → p.1.staged.length ≤ s.staged.length ∧ p.1.toFar = s.toFar ∧ p.1.toNear.length ≤ s.toNear.length + s.staged.length := fun p hp=>by
  subst hp
  split
  ·exact farL_len _ _
  ·exact ⟨Nat.le_refl _,rfl,by simp only; omega⟩
 unfold atFarS
 generalize hp : (if m.kind = 10 then farL s.staged.length s m.number else (s,true)) = p
 obtain ⟨h1,h2,h3⟩ := hx p hp.symm
 have ha := len_answer p.1.far m
 split
 ·exact ⟨h1,h2,by omega⟩
 ·refine ⟨h1,h2,?_⟩
  simp only [List.length_append]; omega
theorem step_len (s : Sx.Sys) (x : Int × Int × Int) : (stepS s x).1.staged.length ≤ s.staged.length + 1 ∧ (stepS s x).1.toFar.length ≤ s.toFar.length + s.r.src.offered.length + 1 ∧ (stepS s x).1.toNear.length ≤ s.toNear.length + s.staged.length + 1 := by
 have same : s.staged.length ≤ s.staged.length + 1 ∧ s.toFar.length ≤ s.toFar.length + s.r.src.offered.length + 1 ∧ s.toNear.length ≤ s.toNear.length + s.staged.length + 1 := ⟨by omega,by omega,by omega⟩
 unfold stepS
 split
 ·have := len_applyRl s.r (smallC s.numbers (s.numbers + 1 + Int.tmod (max 0 x.2.1) 2) x.2.2)
  unfold applyS
  simp only
  split
  ·exact same
  ·simp only [List.length_append]; exact ⟨by omega,by omega,by omega⟩
 split
 ·have := len_store s.far (nextRl s.r).1.number
  unfold sendS
  split
  ·exact same
  ·simp only [List.length_append,List.length_singleton]; exact ⟨by omega,by omega,by omega⟩
 split
 ·cases pickUnderWay s.toFar (max 0 x.2.1) with
  | none=>exact same
  | some m =>
   obtain ⟨h1,h2,h3⟩ := atFar_len s m
   show (atFarS s m).1.staged.length ≤ s.staged.length + 1 ∧ (atFarS s m).1.toFar.length ≤ s.toFar.length + s.r.src.offered.length + 1 ∧ (atFarS s m).1.toNear.length ≤ s.toNear.length + s.staged.length + 1
   exact ⟨by omega,by rw [h2]; omega,h3⟩
 split
 ·cases pickUnderWay s.toNear (max 0 x.2.1) with
  | none=>exact same
  | some m =>
   have := len_learnRl s.r m
   simp only [learnS,List.length_append]; exact ⟨by omega,by omega,by omega⟩
 split
 ·have := len_resend s.r.src
  simp only [resendS,List.length_append]; exact ⟨by omega,by omega,by omega⟩
 ·exact same
def Run (s : Sx.Sys) (t : Nat) : Prop := (∃ A S Sf Af K,SysOk s A S Sf Af K ∧ K.length ≤ t) ∧ s.numbers ≤ 2 * t ∧ s.staged.length ≤ t ∧ s.toFar.length ≤ 1100 * t ∧ s.toNear.length ≤ 1100 * t ∧ t ≤ 500
theorem Run.inv {s : Sx.Sys} {t : Nat} (h : Run s t) : SInv s 600000 := by
 obtain ⟨⟨A,S,Sf,Af,K,h1,h2⟩,h3,h4,h5,h6,h7⟩ := h
 exact ⟨⟨A,S,Sf,Af,K,h1,by omega⟩,by omega,by omega,by omega,by omega⟩
theorem Run.app {s : Sx.Sys} {t : Nat} (h : Run s t) (w d : Int) : (applyS s (max 0 w) d).2 = true := by
 obtain ⟨⟨A,S,Sf,Af,K,h1,h2⟩,h3,h4,h5,h6,h7⟩ := h
 exact (applyS_ok h1 (by omega) (by omega) (by omega)).1
theorem Run.step {s : Sx.Sys} {t : Nat} (h : Run s t) (ht : t < 500) (x : Int × Int × Int) : Run (stepS s x).1 (t + 1) := by
 obtain ⟨⟨A,S,Sf,Af,K,h1,h2⟩,h3,h4,h5,h6,h7⟩ := h
 obtain ⟨_,a2,A',S',Sf',Af',K',a3,a4⟩ := stepS_ok h1 x (by omega) (by omega)
 obtain ⟨l1,l2,l3⟩ := step_len s x
 have e1 : s.r.src.offered.length = K.length := by rw [h1.r]; simp [relR]
 exact ⟨⟨A',S',Sf',Af',K',a3,by omega⟩,by omega,by omega,by omega,by omega,by omega⟩
theorem run_begin : Run beginS 0 := ⟨⟨0,0,0,0,[],beginS_ok,Nat.le_refl _⟩,by simp [beginS],by simp [beginS],by simp [beginS],by simp [beginS],by omega⟩
end Sx
namespace Sv
theorem lawNewR0 : Law Try.prog 14 (rdQuad.sp spNewR0) := lawNew
theorem ctLSOk : Ctrs.Ok Try.prog ctLS := by
 intro x hx
 simp only [ctLS,List.mem_cons,List.not_mem_nil,or_false] at hx
 rcases hx with rfl | rfl | rfl | rfl
 ·exact ctrOf_ok lawNewR0
 ·exact ctrOf_ok lawNewT1
 ·exact ctrOf_ok lawNewI
 ·exact ctrOf_ok lawAwk
theorem meth_law {s s' : Sx.Sys} {f : FuncId} {n : Nat} {args : List (Nat × SV)} (hm : MethOk f n args s s') {g : SFrm} {w0 : World} {H : HV} {R : Value → World → Prop} {mem : Mem} (m' : Mem) (ks : List Nat)
  (hs : SysMem s m')
  (k : ∀ m'',SysMem s' m'' → Runs Try.prog ⟨w0,H⟩ (backK g m'') R)
  (hto : (moveM mem (mvOf 100000 [21,22,23] mem)).map (pickK ks) = some m' := by kernel_rfl) (hn : ks.Nodup := by decide) (hfx : (SV.fixedL (mkJ 1 args 0 n) && [g].all fun f=>SV.fixedL f.tmps) = true := by kernel_rfl) (hgp : (g.tmps.all SV.pinned && ([] : List SFrm).all fun f=>f.tmps.all SV.pinned) = true := by kernel_rfl) :
  Runs Try.prog ⟨w0,H⟩ ⟨SFrm.mk f none none [Item.code (cA f [])] (mkJ 1 args 0 n),[g],mem⟩ R :=
 runs_to (MemTo.to _ ks hto hn) hfx (runs_meth hgp (fun H f _=>hm w0 H f m' hs) (fun v m ⟨hv,hm⟩=>by subst hv; exact k m hm))
theorem runs_sys {C : Ctx} {R : Value → World → Prop} {top : SFrm} {rest : List SFrm} {mem m' : Mem} (ks : List Nat) (hto : (moveM mem (mvOf 100000 [21,22,23] mem)).map (pickK ks) = some m') (hn : ks.Nodup) (hp : (SV.fixedL top.tmps && rest.all fun f=>SV.fixedL f.tmps) = true) (h : Runs Try.prog C ⟨top,rest,m'⟩ R) : Runs Try.prog C ⟨top,rest,mem⟩ R := runs_to (MemTo.to _ ks hto hn) hp h
theorem wrapj {j : Nat} (h : j < 1048576) : IntKind.i64.wrap ((j : Int) + 1) = ((j + 1 : Nat) : Int) := by rw [wrap64J (by omega) (by omega)]; rfl
end Sv
end
section
open Go Go.Proofs Sx
namespace Sv
theorem four_to (h : Hd) : D.to Int (D.slc h 1 [[D.int IntKind.i64 4]]) = [4] := rfl
theorem four_is (h : Hd) : D.Is Int (D.slc h 1 [[D.int IntKind.i64 4]]) ∧ D.len (D.slc h 1 [[D.int IntKind.i64 4]]) ≤ 1048576 := ⟨(is_of (h := h) (s := 1) rfl (rows_one (ok_int 4) rfl)).1,by simp only [len_slc,List.length_cons,List.length_nil]; omega⟩
theorem img4 : imgOf [4] = im0 := by decide
theorem err4 : sizesErr [4] = 0 := by decide
theorem ok4 : decide (IntKind.wrap IntKind.i64 (IntKind.wrap IntKind.i64 (0 + 0) + 0) = 0) = true := by decide
theorem begin_mem (o k nv : D) (h1 : nv.Is Vol) (h2 : nv.to Vol = im0) : SysMem beginS (sysM o k nv (.slc none 0 [[.int .i64 0,nv]]) nv (.slc none 8 []) (.slc none 8 []) beginS.r beginS.far beginS.numbers (.view 0 5 0 0) [(0,.arr 65 (.slc none 5 []))]) :=
 ⟨_,_,_,_,_,_,_,_,_,⟨⟨h1,h2⟩,map_one h1 h2 _ _,⟨h1,h2⟩,⟨is_nil _ _,rfl,rfl⟩,⟨is_nil _ _,rfl,rfl⟩⟩,.a _ 0 0 rfl rfl ⟨by simp [D.rows],rfl⟩,rfl⟩
end Sv
end
section
open Go Go.Proofs Sx
namespace Sx
def SmR (r : Rl) : Prop := r.src.offered.length ≤ 1000 ∧ r.kept.length ≤ 1000 ∧ ∀ c,c ∈ r.kept → ∃ b n d,c = smallC b n d ∧ 0 ≤ b ∧ b < n ∧ n ≤ 1073741824
theorem SmR.ok {r : Rl} (h : SmR r) (o k : D) : (RlD.mk ⟨r.near.epoch,r.near.site,r.near.stored,r.near.applied⟩ ⟨r.far.epoch,r.far.site,r.far.stored,r.far.applied⟩ ⟨r.src.epoch,r.src.site,o.like r.src.offered,r.src.stored,r.src.applied⟩ (k.like r.kept)).Ok := by
 refine ⟨D.like_is _ _,D.like_is _ _,?_,?_,?_⟩
 ·show (o.like r.src.offered).len ≤ _
  rw [like_leng]; have := h.1; omega
 ·show (k.like r.kept).len ≤ _
  rw [like_leng]; have := h.2.1; omega
 ·show ∀ c,c ∈ (k.like r.kept).to Cy → CyOk c
  rw [D.like_to]
  intro c hc
  obtain ⟨b,n,d,e,_⟩ := h.2.2 c hc
  rw [e]; exact small_ok _ _ _
theorem len_offered (s : Src) (m : Msg) : (learn s m).1.offered.length ≤ s.offered.length := by
 have hf : (s.offered.filter fun x=>decide (x > m.value)).length ≤ s.offered.length := List.length_filter_le _ _
 unfold learn
 repeat' split
 all_goals first
  | exact Nat.le_refl _
  | exact Nat.zero_le _
  | exact hf
theorem SmR.learn {r : Rl} (h : SmR r) (m : Msg) : SmR (learnRl r m).1 := by
 obtain ⟨h1,h2,h3⟩ := h
 have ho := len_offered r.src m
 unfold learnRl
 simp only
 repeat' split
 ·exact ⟨h1,h2,h3⟩
 ·exact ⟨Nat.le_trans ho h1,Nat.zero_le _,fun c hc=>nomatch hc⟩
 ·refine ⟨Nat.le_trans ho h1,Nat.le_trans (List.length_filter_le _ _) h2,fun c hc=>h3 c (List.mem_filter.1 hc).1⟩
theorem msg_nil (a b c d e f : Int) : (MsgD.mk a b c d e f (D.slc none 0 []) (D.slc none 0 [])).msg = ⟨a,b,c,d,e,f,[],[]⟩ := rfl
theorem cy_backR (c : Cy) (a b : D) : (CyD.mk c.base c.number c.time (a.like c.pos) (b.like c.wr)).cy = c := by simp only [CyD.cy,D.like_to]
theorem cy_likeOk {c : Cy} (h : CyOk c) (a b : D) : (CyD.mk c.base c.number c.time (a.like c.pos) (b.like c.wr)).Ok := by
 refine ⟨D.like_is _ _,D.like_is _ _,?_,?_,?_⟩
 ·show (a.like c.pos).len ≤ _
  rw [like_leng]; exact h.1
 ·show (b.like c.wr).len ≤ _
  rw [like_leng]; exact h.2.1
 ·show ∀ w,w ∈ (b.like c.wr).to Wt → _
  rw [D.like_to]; exact h.2.2
theorem im4_vols {l : List Vol} (h : Im4 l) : ∀ v,v ∈ l → v.l.length ≤ 1048576 := fun v hv=>by
 unfold Im4 volSizes at h
 have : (v.l.length : Int) ∈ l.map fun v=>(v.l.length : Int) := List.mem_map.2 ⟨v,hv,rfl⟩
 rw [h] at this
 simp at this
 omega
theorem chain_lt : ∀ {a : Int} {l : List Cy},ChainS a l → ∀ c,c ∈ l → c.base < c.number
 | _,[],_,_,h=>nomatch h
 | a,x :: r,h,c,hc=>by
  obtain ⟨⟨d,hd⟩,h2,_,h4⟩ := h
  rcases List.mem_cons.1 hc with rfl | hc
  ·rw [hd]; exact h2
  ·exact chain_lt h4 c hc
theorem sysOk_small {s : Sx.Sys} {A S Sf Af : Int} {K : List Cy} (h : SysOk s A S Sf Af K) (hk : K.length ≤ 1000) {e : Int} (he : 1 ≤ e ∧ e ≤ 1073741824) : SmR (restartRl s.r e s.far.applied).1 := by
 have hat : Af = A ∨ Af ∈ K.map Cy.number := by
  obtain ⟨p,hp,hpe⟩ := looks_mem h.img.1
  obtain ⟨_,q2⟩ := h.ims p hp
  rw [hpe] at q2
  rcases q2 with q2 | q2
  ·exact .inl (by have := h.le.1; omega)
  ·exact .inr q2
 obtain ⟨e1,_⟩ := restart_rel (v := Af) h.rel he hat
 rw [h.r,h.far]
 show SmR (restartRl (relR A S s.numbers K) e Af).1
 rw [e1]
 have hl : (behindL K Af).length ≤ K.length := List.length_filter_le _ _
 refine ⟨by show ((behindL K Af).map Cy.number).length ≤ _; rw [List.length_map]; omega,by show (behindL K Af).length ≤ _; omega,fun c hc=>?_⟩
 have hc : c ∈ K := (List.mem_filter.1 hc).1
 obtain ⟨d,hd⟩ := chain_mem h.rel.ch hc
 obtain ⟨_,hle⟩ := chain_le h.rel.ch
 obtain ⟨q1,q2,q3,q4⟩ := hle c hc
 have ha := h.rel.a0
 have hbn := chain_lt h.rel.ch c hc
 exact ⟨c.base,c.number,d,hd,by omega,hbn,q4⟩
def spRes (x : D × Int) : SpecR := .scalar [x.1.Is St3 ∧ 0 ≤ x.2] (.lb true)
end Sx
namespace Sv
theorem ctReOk : Ctrs.Ok Try.prog ctRe := by
 intro x hx
 simp only [ctRe,List.mem_cons,List.not_mem_nil,or_false] at hx
 rcases hx with rfl | rfl | rfl | rfl | rfl | rfl | rfl | rfl
 ·exact ctrOf_ok lawRst
 ·exact ctrOf_ok lawCk
 ·exact ctrOf_ok lawLag
 ·exact ctrOf_ok lawNxt
 ·exact ctrOf_ok lawCln
 ·exact ctrOf_ok lawCya
 ·exact ctrOf_ok lawImS
 ·exact ctrOf_ok lawAwk
theorem rmA_loop {o k nv im st : D} {lo n : Nat} {r : Rl} {far : Tgt} {num : Int} (w : World) (H : HV) {N : List Vol} (hnv : nv.Is Vol ∧ nv.to Vol = N) (hN : Im4 N) : ∀ (q : Nat) {o2 k2 im2 : D} {r2 : Rl} {I : List Vol},SmR r2 → im2.Is Vol ∧ im2.to Vol = I → Im4 I → (∃ r',resumeL q r2 I = some (r',N) ∧ lagRl r' = 0) →
  Runs Try.prog ⟨w,H⟩ (reM o k nv im r far num (.view 3 5 lo n) 4 5 o2 k2 im2 r2) (RetS w H (.lb true))
 | 0,_,_,_,_,_,_,_,_,⟨_,h,_⟩=>nomatch h
 | q + 1,o2,k2,im2,r2,I,hr,hi,hI,⟨r',h,hlag⟩=>by
  have l1 := im_len hi.1 hi.2 hI
  have l2 := im_len hnv.1 hnv.2 hN
  refine unroll_sound rfl ?_
  apply exec_sound ctReOk 400
  rw [rmA_go]
  simp only [rl_backR,cy_backR,msg_nil,hi.2,hnv.2,like_leng]
  unfold resumeL at h
  refine ⟨hr.ok _ _,fun hs0=>⟨fun h1=>?_,fun h1=>?_⟩⟩
  ·have h1 : (nextRl r2).2 = false := by simpa using h1
   rw [if_pos h1] at h
   simp only [Option.some.injEq,Prod.mk.injEq] at h
   obtain ⟨rfl,rfl⟩ := h
   exact ⟨⟨hi.1,hnv.1,l1,l2,im4_vols hI,im4_vols hN⟩,fun _=>⟨hr.ok _ _,fun _=>ret_lbt,fun h=>absurd hlag (of_decide_eq_false h)⟩,fun h=>absurd rfl (of_decide_eq_false h)⟩
  ·have h1 : (nextRl r2).2 = true := by simpa using h1
   rw [if_neg (by rw [h1]; decide)] at h
   obtain ⟨hm,_⟩ := next_mem h1
   obtain ⟨b,nn,d,e,b1,b2,b3⟩ := hr.2.2 _ hm
   obtain ⟨i1,i2⟩ := im4_apply (d := d) hI b1 b2 b3
   rw [← e] at i1 i2
   rw [if_neg (by rw [i1]; decide)] at h
   split at h
   ·cases h
   rename_i hk
   have hk := Decidable.not_not.1 hk
   have hL := hr.2.1
   refine ⟨⟨hi.1,l1,cy_likeOk (by rw [e]; exact small_ok _ _ _) _ _⟩,fun hs1=>⟨(fun h=>by rw [i1] at h; cases h),fun _=>⟨hr.ok _ _,fun hs2=>⟨(hr.learn _).ok _ _,fun hs3=>⟨fun hx=>?_,fun _=>?_⟩⟩⟩⟩⟩
   ·exfalso
    rw [wrap64J (by omega) (by omega)] at hx
    simp only [bne_iff_ne,ne_eq] at hx
    omega
   ·exact rmA_loop (st := st) (lo := lo) (n := n) w H hnv hN q ((hr.learn _).learn _) ⟨D.like_is _ _,D.like_to _ _⟩ i2 ⟨r',h,hlag⟩
theorem rmB_loop {o k nv im st : D} {lo n : Nat} {r : Rl} {far : Tgt} {num : Int} (w : World) (H : HV) {N : List Vol} (hnv : nv.Is Vol ∧ nv.to Vol = N) (hN : Im4 N) : ∀ (q : Nat) {o2 k2 im2 : D} {r2 : Rl} {I : List Vol},SmR r2 → im2.Is Vol ∧ im2.to Vol = I → Im4 I → (∃ r',resumeL q r2 I = some (r',N) ∧ lagRl r' = 0) →
  Runs Try.prog ⟨w,H⟩ (reM o k nv im r far num (.dat st) 3 4 o2 k2 im2 r2) (RetS w H (.lb true))
 | 0,_,_,_,_,_,_,_,_,⟨_,h,_⟩=>nomatch h
 | q + 1,o2,k2,im2,r2,I,hr,hi,hI,⟨r',h,hlag⟩=>by
  have l1 := im_len hi.1 hi.2 hI
  have l2 := im_len hnv.1 hnv.2 hN
  refine unroll_sound rfl ?_
  apply exec_sound ctReOk 400
  rw [rmB_go]
  simp only [rl_backR,cy_backR,msg_nil,hi.2,hnv.2,like_leng]
  unfold resumeL at h
  refine ⟨hr.ok _ _,fun hs0=>⟨fun h1=>?_,fun h1=>?_⟩⟩
  ·have h1 : (nextRl r2).2 = false := by simpa using h1
   rw [if_pos h1] at h
   simp only [Option.some.injEq,Prod.mk.injEq] at h
   obtain ⟨rfl,rfl⟩ := h
   exact ⟨⟨hi.1,hnv.1,l1,l2,im4_vols hI,im4_vols hN⟩,fun _=>⟨hr.ok _ _,fun _=>ret_lbt,fun h=>absurd hlag (of_decide_eq_false h)⟩,fun h=>absurd rfl (of_decide_eq_false h)⟩
  ·have h1 : (nextRl r2).2 = true := by simpa using h1
   rw [if_neg (by rw [h1]; decide)] at h
   obtain ⟨hm,_⟩ := next_mem h1
   obtain ⟨b,nn,d,e,b1,b2,b3⟩ := hr.2.2 _ hm
   obtain ⟨i1,i2⟩ := im4_apply (d := d) hI b1 b2 b3
   rw [← e] at i1 i2
   rw [if_neg (by rw [i1]; decide)] at h
   split at h
   ·cases h
   rename_i hk
   have hk := Decidable.not_not.1 hk
   have hL := hr.2.1
   refine ⟨⟨hi.1,l1,cy_likeOk (by rw [e]; exact small_ok _ _ _) _ _⟩,fun hs1=>⟨(fun h=>by rw [i1] at h; cases h),fun _=>⟨hr.ok _ _,fun hs2=>⟨(hr.learn _).ok _ _,fun hs3=>⟨fun hx=>?_,fun _=>?_⟩⟩⟩⟩⟩
   ·exfalso
    rw [wrap64J (by omega) (by omega)] at hx
    simp only [bne_iff_ne,ne_eq] at hx
    omega
   ·exact rmB_loop (st := st) (lo := lo) (n := n) w H hnv hN q ((hr.learn _).learn _) ⟨D.like_is _ _,D.like_to _ _⟩ i2 ⟨r',h,hlag⟩
theorem re_loop {l : D} {ep : Int} (hep : 0 ≤ ep) (hl : l.Is St3) (hlen : l.len ≤ 30) (w : World) (H : HV) : ∀ (q j : Nat) {s : Sx.Sys} {mm : Mem},j + q = l.len → Run s j → SysMem s mm → Runs Try.prog ⟨w,H⟩ (reL l ep j mm) (RetS w H (.lb true))
 | 0,j,s,mm,hj,hr,hm=>by
  have hinv := hr.inv
  obtain ⟨⟨A,S,Sf,Af,K,hs,hkl⟩,hnum,_,_,_,ht⟩ := hr
  have het : 0 ≤ Int.tmod ep 3 ∧ Int.tmod ep 3 < 3 := by rw [Int.tmod_eq_emod_of_nonneg hep]; omega
  have w1 : IntKind.wrap IntKind.i64 (Int.tmod ep 3) = Int.tmod ep 3 := wrap64J (by omega) (by omega)
  have w2 : IntKind.wrap IntKind.i64 (1 + Int.tmod ep 3) = 1 + Int.tmod ep 3 := wrap64J (by omega) (by omega)
  have he : 1 ≤ 1 + Int.tmod ep 3 ∧ 1 + Int.tmod ep 3 ≤ 1073741824 := by omega
  obtain ⟨c1,c2,c3,r',c4,c5⟩ := resumes_ok hs he
  have hsm := sysOk_small hs (by omega) he
  have hlag : IntKind.wrap IntKind.i64 (s.r.near.applied - s.far.applied) = s.r.near.applied - s.far.applied := by
   obtain ⟨r1,r2,r3⟩ := hs.rel.range
   have ha := hs.rel.a0
   have htop := hs.rel.top
   obtain ⟨l1,l2,l3⟩ := hs.le
   obtain ⟨cl,_⟩ := chain_le hs.ch
   rw [hs.last] at cl
   have e1 : s.r.near.applied = s.numbers := by rw [hs.r]; rfl
   have e2 : s.far.applied = Af := by rw [hs.far]
   rw [e1,e2]
   exact wrap64J (by omega) (by omega)
  obtain ⟨o,k,nv,m,im,tf,tn,sv,bl,hsw,hst,hee⟩ := hm
  subst hee
  refine unroll_sound rfl ?_
  apply execRE_sound ctReOk _ 400
  cases hst with
  | a st lo n h1 h2 h3 =>
   rw [reA_go]
   simp only [rl_backR,w1,w2,c1,c2,c3,hlag,bne_self_eq_false]
   refine ⟨fun h=>absurd (of_decide_eq_true h) (by omega),fun _ hs0=>?_⟩
   repeat first
    | refine fun (_ : Nat → Nat → D)=>?_
    | refine ⟨by decide,?_⟩
    | refine ⟨rfl,?_⟩
    | refine ⟨hinv.rl o k,?_⟩
    | refine ⟨hsm.ok _ _,?_⟩
    | refine ⟨fun h=>absurd h (by decide),fun _=>?_⟩
    | fail
   refine runs_sub (reM o k nv im s.r s.far s.numbers (.view 3 5 lo n) 4 5 (hs0 13 0) (hs0 13 1) im (restartRl s.r (1 + Int.tmod ep 3) s.far.applied).1).mem ?_ (rmA_loop (o2 := hs0 13 0) (k2 := hs0 13 1) (st := st) (lo := lo) (n := n) w H hsw.nv hs.near.2 _ hsm hsw.im hs.img.2 ⟨r',c4,c5⟩)
   exact ((((List.nil_sublist _).cons₂ _).cons _).cons _).cons _ |>.cons₂ _
  | b st h1 h2 h3 =>
   rw [reB_go]
   simp only [rl_backR,w1,w2,c1,c2,c3,hlag,bne_self_eq_false]
   refine ⟨fun h=>absurd (of_decide_eq_true h) (by omega),fun _ hs0=>?_⟩
   repeat first
    | refine fun (_ : Nat → Nat → D)=>?_
    | refine ⟨by decide,?_⟩
    | refine ⟨rfl,?_⟩
    | refine ⟨hinv.rl o k,?_⟩
    | refine ⟨hsm.ok _ _,?_⟩
    | refine ⟨fun h=>absurd h (by decide),fun _=>?_⟩
    | fail
   refine runs_sub (reM o k nv im s.r s.far s.numbers (.dat st) 3 4 (hs0 13 0) (hs0 13 1) im (restartRl s.r (1 + Int.tmod ep 3) s.far.applied).1).mem ?_ (rmB_loop (o2 := hs0 13 0) (k2 := hs0 13 1) (st := st) (lo := 0) (n := 0) w H hsw.nv hs.near.2 _ hsm hsw.im hs.img.2 ⟨r',c4,c5⟩)
   exact ((((List.nil_sublist _).cons₂ _).cons _).cons _) |>.cons₂ _
 | q + 1,j,s,mm,hj,hr,hm=>by
  have hlt : j < (l.to St3).length := by rw [← D.Is.length (α := St3)]; omega
  have hcell := st_cell hl hlt
  have hsz : l.sz = 3 := hl.size hlt
  have hnum := hr.2.1
  have hx : ∀ mm,SysMem (stepS s (l.getInt j 0,l.getInt j 1,l.getInt j 2)).1 mm → Runs Try.prog ⟨w,H⟩ (backK (reF l ep j) mm) (RetS w H (.lb true)) := fun mm hm=>by
   have hr' := hr.step (by omega) (l.getInt j 0,l.getInt j 1,l.getInt j 2)
   generalize (stepS s (l.getInt j 0,l.getInt j 1,l.getInt j 2)).1 = s at hr' hm
   have ih : ∀ mm,SysMem s mm → Runs Try.prog ⟨w,H⟩ (reL l ep ((j + 1 : Nat) : Int) mm) (RetS w H (.lb true)) := fun mm hm=>re_loop hep hl hlen w H q (j + 1) (by omega) hr' hm
   obtain ⟨o,k,nv,m,im,tf,tn,sv,bl,hsw,hst,he⟩ := hm
   subst he
   apply execRE_sound ctReOk _ 400
   cases hst with
   | a st lo n h1 h2 h3 =>
    rw [reA_k,wrapj (by omega)]
    exact runs_sys [100000,100001,1,2,0] (by kernel_rfl) (by decide) (by kernel_rfl) (ih (sysM o k nv m im tf tn s.r s.far s.numbers (.view 0 5 lo n) [(0,.arr 65 st)]) (smem hsw (.a st lo n h1 h2 h3)))
   | b st h1 h2 h3 =>
    rw [reB_k,wrapj (by omega)]
    exact runs_sys [100000,100001,1,2] (by kernel_rfl) (by decide) (by kernel_rfl) (ih (sysM o k nv m im tf tn s.r s.far s.numbers (.dat st) []) (smem hsw (.b st h1 h2 h3)))
  obtain ⟨o,k,nv,m,im,tf,tn,sv,bl,hsw,hst,he⟩ := hm
  subst he
  refine unroll_sound rfl ?_
  apply execRE_sound ctReOk _ 400
  cases hst with
  | a st lo n h1 h2 h3 =>
   rw [reA_go]
   refine ⟨fun _=>⟨⟨by omega,by omega,hsz⟩,hcell,?_⟩,fun h=>absurd (of_decide_eq_false h) (by omega)⟩
   exact meth_law (step_meth hr.inv _ _ _ (by omega) (hr.app _ _)) (g := reF l ep j) (sysM o k nv m im tf tn s.r s.far s.numbers (.view 0 5 lo n) [(0,.arr 65 st)]) [100000,100001,1,2,0] (smem hsw (.a st lo n h1 h2 h3)) hx
  | b st h1 h2 h3 =>
   rw [reB_go]
   refine ⟨fun _=>⟨⟨by omega,by omega,hsz⟩,hcell,?_⟩,fun h=>absurd (of_decide_eq_false h) (by omega)⟩
   exact meth_law (step_meth hr.inv _ _ _ (by omega) (hr.app _ _)) (g := reF l ep j) (sysM o k nv m im tf tn s.r s.far s.numbers (.dat st) []) [100000,100001,1,2] (smem hsw (.b st h1 h2 h3)) hx
theorem lawRes : Law Try.prog 9 ((rdD.two rdB8).sp spRes) := by
 refine law_in _ (by kernel_rfl) fun H w ⟨l,ep⟩ hok hp=>?_
 obtain ⟨hl,hep⟩ := hp _ (List.mem_singleton.2 rfl)
 simp only at hl hep
 apply exec_sound ctLSOk 400
 rw [show (rdD.two rdB8).canon (l,ep) = [.dat l,.int .u8 ep] from rfl,rm_in]
 simp only [four_to,err4,ok4,img4]
 refine fun hs0 hs1 hs2=>⟨four_is _,fun hs3=>⟨fun h=>absurd h (by decide),fun _=>⟨fun _=>⟨fun _=>ret_lbt,fun h=>absurd h (by decide)⟩,fun hlen=>?_⟩⟩⟩
 have hlen : l.len ≤ 30 := by have := of_decide_eq_false hlen; omega
 refine begin_to 65 72 5 8 21 22 23 (reL l ep 0 [(2,.arr 72 (.slc none 8 [])),(1,.arr 72 (.slc none 8 [])),(0,.arr 65 (.slc none 5 [])),
  (100000,.cells 62 (rlL (hs0 0 0) (hs0 0 1) beginS.r ++ [.dat ((hs3 0 0).like im0),.mapp 100001,.int .i64 1,.int .i64 2,.int .i64 0,.int .i64 0,.dat ((hs3 0 0).like im0),.view 0 5 0 0,.vec 1,.vec 2,.int .i64 0])),(100001,.mapD .i64 false [.slc] (.slc none 0 [[.int .i64 0,(hs3 0 0).like im0]]))]) (by kernel_rfl) ?_
 exact runs_sys [100000,100001,1,2,0] (by kernel_rfl) (by decide) (by kernel_rfl) (re_loop hep hl hlen w H l.len 0 (by omega) run_begin (begin_mem (hs0 0 0) (hs0 0 1) ((hs3 0 0).like im0) (D.like_is _ _) (D.like_to _ _)))
end Sv
end
