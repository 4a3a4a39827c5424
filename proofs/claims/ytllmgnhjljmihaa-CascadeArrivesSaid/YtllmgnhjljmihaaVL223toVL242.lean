/- Layer 41: the system's atFar: its law. -/
import Derived.Test.YtllmgnhjljmihaaQftoVL222
import Derived.Test.YtllmgnhjljmihaaPztoN31
import Derived.Test.YtllmgnhjljmihaaOutoFr
set_option linter.all false
set_option maxRecDepth 100000
set_option maxHeartbeats 0
noncomputable section
open Go Go.Proofs Sx
namespace Sv
theorem faA_law {s : Sx.Sys} {b : Nat} (h : SInv s b) {mk mf mt mn mv me : Int} {ml mb o k nv m im st tf tn : D} {lo n : Nat} (hsw : SW nv m im tf tn s) (hst : Stg 65 s.staged (.view 0 5 lo n) [(0,.arr 65 st)])
  (w0 : World) (H : HV) (fp : Nat → Nat) : Runs Try.prog (@Ctx.mk w0 H (pinX fp)) (sysE 28 116 [(0,.ptr 100000 0),(1,.agg [.int .i64 mk,.int .i64 mf,.int .i64 mt,.int .i64 mn,.int .i64 mv,.int .i64 me,.dat ml,.dat mb])] (sysM o k nv m im tf tn s.r s.far s.numbers (.view 0 5 lo n) [(0,.arr 65 st)])) (RetP w0 H fp fun v mm=>v = .lb true ∧ SysMemF tf (atFarS s (MsgD.msg ⟨mk,mf,mt,mn,mv,me,ml,mb⟩)).1 mm) := by
 have hb := h.2
 obtain ⟨⟨A,S,Sf,Af,K,hs,hk⟩,_⟩ := h
 have htn : tn.len = s.toNear.length := by rw [D.Is.length (α := Msg),hsw.tn.2.2]
 have hone := len_answer s.far (MsgD.msg ⟨mk,mf,mt,mn,mv,me,ml,mb⟩)
 have hone' := len_answer ⟨s.far.epoch,s.far.site,s.far.stored,s.far.applied⟩ (MsgD.msg ⟨mk,mf,mt,mn,mv,me,ml,mb⟩)
 obtain ⟨g1,g2,g3⟩ : st.sz = 5 ∧ lo + n = st.rows.length ∧ SRows Cy (st.rows.drop lo) s.staged := by cases hst; exact ⟨by assumption,by assumption,by assumption⟩
 apply execRS_sound ctFSOk [] 400
 rw [faA_in]
 refine ⟨fun hc=>?_,fun hc=>?_⟩
 ·have hc : mk = 10 := of_decide_eq_true hc
  have e : (atFarS s (MsgD.msg ⟨mk,mf,mt,mn,mv,me,ml,mb⟩)).1 = { (farL s.staged.length s mn).1 with far := (answer (farL s.staged.length s mn).1.far (MsgD.msg ⟨mk,mf,mt,mn,mv,me,ml,mb⟩)).1,toNear := (farL s.staged.length s mn).1.toNear ++ (answer (farL s.staged.length s mn).1.far (MsgD.msg ⟨mk,mf,mt,mn,mv,me,ml,mb⟩)).2 } := by
   obtain ⟨Af',_,f1,_,_⟩ := farL_ok (n := mn) s.staged.length hs
   unfold atFarS
   rw [show (MsgD.msg ⟨mk,mf,mt,mn,mv,me,ml,mb⟩).kind = mk from rfl,show (MsgD.msg ⟨mk,mf,mt,mn,mv,me,ml,mb⟩).number = mn from rfl,if_pos hc]
   rw [if_neg (by rw [f1]; decide)]
  rw [e]
  exact faV_law w0 H fp s.staged.length rfl ⟨_,_,_,_,_,hs⟩ (by omega) hsw g1 g2 g3
 ·have hc : ¬mk = 10 := of_decide_eq_false hc
  have e : (atFarS s (MsgD.msg ⟨mk,mf,mt,mn,mv,me,ml,mb⟩)).1 = { s with far := (answer s.far (MsgD.msg ⟨mk,mf,mt,mn,mv,me,ml,mb⟩)).1,toNear := s.toNear ++ (answer s.far (MsgD.msg ⟨mk,mf,mt,mn,mv,me,ml,mb⟩)).2 } := by
   unfold atFarS
   rw [show (MsgD.msg ⟨mk,mf,mt,mn,mv,me,ml,mb⟩).kind = mk from rfl,if_neg hc,if_neg (fun h=>nomatch h)]
  rw [e]
  refine fun hsa hsb=>⟨⟨hsw.tn.2.1,(D.like_is (α := Msg) _ _).fits,by simp only [like_leng,htn]; omega,by simp only [like_leng,htn]; omega⟩,?_⟩
  have ha := rows_app (rows_of hsw.tn.1) (rows_of (D.like_is (hsa 5 0) (answer s.far (MsgD.msg ⟨mk,mf,mt,mn,mv,me,ml,mb⟩)).2))
  rw [D.like_to,hsw.tn.2.2] at ha
  obtain ⟨a1,a2⟩ := is_of (h := D.hd (hsb 8 0)) (s := 8) rfl ha
  exact retS (fd := Try.f28) (l := [.lb true]) (sysM o k nv m im tf (.slc (D.hd (hsb 8 0)) 8 (List.append tn.rows ((hsa 5 0).like (answer s.far (MsgD.msg ⟨mk,mf,mt,mn,mv,me,ml,mb⟩)).2).rows)) s.r (answer s.far (MsgD.msg ⟨mk,mf,mt,mn,mv,me,ml,mb⟩)).1 s.numbers (.view 0 5 lo n) [(0,.arr 65 st)]) [100000,100001,1,2,0]
   ⟨_,_,_,_,_,_,_,_,⟨hsw.nv,hsw.m,hsw.im,hsw.tf,⟨a1,rfl,a2⟩⟩,hst,rfl⟩
theorem faB_law {s : Sx.Sys} {b : Nat} (h : SInv s b) {mk mf mt mn mv me : Int} {ml mb o k nv m im st tf tn : D} {lo n : Nat} (hsw : SW nv m im tf tn s) (hst : Stg 65 s.staged (.dat st) [])
  (w0 : World) (H : HV) (fp : Nat → Nat) : Runs Try.prog (@Ctx.mk w0 H (pinX fp)) (sysE 28 116 [(0,.ptr 100000 0),(1,.agg [.int .i64 mk,.int .i64 mf,.int .i64 mt,.int .i64 mn,.int .i64 mv,.int .i64 me,.dat ml,.dat mb])] (sysM o k nv m im tf tn s.r s.far s.numbers (.dat st) [])) (RetP w0 H fp fun v mm=>v = .lb true ∧ SysMemF tf (atFarS s (MsgD.msg ⟨mk,mf,mt,mn,mv,me,ml,mb⟩)).1 mm) := by
 have hb := h.2
 obtain ⟨⟨A,S,Sf,Af,K,hs,hk⟩,_⟩ := h
 have htn : tn.len = s.toNear.length := by rw [D.Is.length (α := Msg),hsw.tn.2.2]
 have hone := len_answer s.far (MsgD.msg ⟨mk,mf,mt,mn,mv,me,ml,mb⟩)
 have hone' := len_answer ⟨s.far.epoch,s.far.site,s.far.stored,s.far.applied⟩ (MsgD.msg ⟨mk,mf,mt,mn,mv,me,ml,mb⟩)
 obtain ⟨g1,g2,g3⟩ : st.rows = [] ∧ st.Tight ∧ s.staged = [] := by cases hst; exact ⟨by assumption,by assumption,by assumption⟩
 apply execRS_sound ctFSOk [] 400
 rw [faB_in]
 refine ⟨fun hc=>?_,fun hc=>?_⟩
 ·have hc : mk = 10 := of_decide_eq_true hc
  have e : (atFarS s (MsgD.msg ⟨mk,mf,mt,mn,mv,me,ml,mb⟩)).1 = { (farL s.staged.length s mn).1 with far := (answer (farL s.staged.length s mn).1.far (MsgD.msg ⟨mk,mf,mt,mn,mv,me,ml,mb⟩)).1,toNear := (farL s.staged.length s mn).1.toNear ++ (answer (farL s.staged.length s mn).1.far (MsgD.msg ⟨mk,mf,mt,mn,mv,me,ml,mb⟩)).2 } := by
   obtain ⟨Af',_,f1,_,_⟩ := farL_ok (n := mn) s.staged.length hs
   unfold atFarS
   rw [show (MsgD.msg ⟨mk,mf,mt,mn,mv,me,ml,mb⟩).kind = mk from rfl,show (MsgD.msg ⟨mk,mf,mt,mn,mv,me,ml,mb⟩).number = mn from rfl,if_pos hc]
   rw [if_neg (by rw [f1]; decide)]
  rw [e]
  have e3 : (farL s.staged.length s mn).1 = s := by rw [g3]; rfl
  rw [e3]; exact faE_law (by omega) hsw g1 g2 g3 w0 H fp
 ·have hc : ¬mk = 10 := of_decide_eq_false hc
  have e : (atFarS s (MsgD.msg ⟨mk,mf,mt,mn,mv,me,ml,mb⟩)).1 = { s with far := (answer s.far (MsgD.msg ⟨mk,mf,mt,mn,mv,me,ml,mb⟩)).1,toNear := s.toNear ++ (answer s.far (MsgD.msg ⟨mk,mf,mt,mn,mv,me,ml,mb⟩)).2 } := by
   unfold atFarS
   rw [show (MsgD.msg ⟨mk,mf,mt,mn,mv,me,ml,mb⟩).kind = mk from rfl,if_neg hc,if_neg (fun h=>nomatch h)]
  rw [e]
  refine fun hsa hsb=>⟨⟨hsw.tn.2.1,(D.like_is (α := Msg) _ _).fits,by simp only [like_leng,htn]; omega,by simp only [like_leng,htn]; omega⟩,?_⟩
  have ha := rows_app (rows_of hsw.tn.1) (rows_of (D.like_is (hsa 5 0) (answer s.far (MsgD.msg ⟨mk,mf,mt,mn,mv,me,ml,mb⟩)).2))
  rw [D.like_to,hsw.tn.2.2] at ha
  obtain ⟨a1,a2⟩ := is_of (h := D.hd (hsb 8 0)) (s := 8) rfl ha
  exact retS (fd := Try.f28) (l := [.lb true]) (sysM o k nv m im tf (.slc (D.hd (hsb 8 0)) 8 (List.append tn.rows ((hsa 5 0).like (answer s.far (MsgD.msg ⟨mk,mf,mt,mn,mv,me,ml,mb⟩)).2).rows)) s.r (answer s.far (MsgD.msg ⟨mk,mf,mt,mn,mv,me,ml,mb⟩)).1 s.numbers (.dat st) []) [100000,100001,1,2]
   ⟨_,_,_,_,_,_,_,_,⟨hsw.nv,hsw.m,hsw.im,hsw.tf,⟨a1,rfl,a2⟩⟩,hst,rfl⟩
theorem far_methF {s : Sx.Sys} {b : Nat} (h : SInv s b) (mk mf mt mn mv me : Int) (ml mb tf : D) (w0 : World) (H : HV) (fp : Nat → Nat) (mm : Mem) (hm : SysMemF tf s mm) : Runs Try.prog (@Ctx.mk w0 H (pinX fp)) (sysE 28 116 [(0,.ptr 100000 0),(1,.agg [.int .i64 mk,.int .i64 mf,.int .i64 mt,.int .i64 mn,.int .i64 mv,.int .i64 me,.dat ml,.dat mb])] mm) (RetP w0 H fp fun v mm=>v = .lb true ∧ SysMemF tf (atFarS s (MsgD.msg ⟨mk,mf,mt,mn,mv,me,ml,mb⟩)).1 mm) := by
 obtain ⟨o,k,nv,m,im,tn,sv,bl,hsw,hst,he⟩ := hm
 subst he
 cases hst with
 | a st lo n h1 h2 h3=>exact faA_law h hsw (.a st lo n h1 h2 h3) w0 H fp
 | b st h1 h2 h3=>exact faB_law (lo := 0) (n := 0) h hsw (.b st h1 h2 h3) w0 H fp
theorem retP_mono {w0 : World} {H : HV} {f : Nat → Nat} {Φ Ψ : SV → Mem → Prop} (h : ∀ v m,Φ v m → Ψ v m) {u : Value} {w : World} : RetP w0 H f Φ u w → RetP w0 H f Ψ u w := fun ⟨v,m,E1,H',h1,h2⟩=>⟨v,m,E1,H',h v m h1,h2⟩
theorem far_meth {s : Sx.Sys} {b : Nat} (h : SInv s b) (mk mf mt mn mv me : Int) (ml mb : D) : MethOk 28 116 [(0,.ptr 100000 0),(1,.agg [.int .i64 mk,.int .i64 mf,.int .i64 mt,.int .i64 mn,.int .i64 mv,.int .i64 me,.dat ml,.dat mb])] s (atFarS s (MsgD.msg ⟨mk,mf,mt,mn,mv,me,ml,mb⟩)).1 := by
 intro w0 H fp mm ⟨o,k,nv,m,im,tf,tn,sv,bl,hsw,hst,he⟩
 exact (far_methF h mk mf mt mn mv me ml mb tf w0 H fp mm ⟨o,k,nv,m,im,tn,sv,bl,hsw,hst,he⟩).mono fun u w=>retP_mono fun v m ⟨h1,h2⟩=>⟨h1,h2.mem⟩
end Sv
end
noncomputable section
open Go Go.Proofs Sx
namespace Sx
theorem msg_at {d : D} (h : d.Is Msg) {i : Nat} (hi : i < (d.to Msg).length) : (MsgD.mk (d.getInt i 0) (d.getInt i 1) (d.getInt i 2) (d.getInt i 3) (d.getInt i 4) (d.getInt i 5) (d.cell i 6) (d.cell i 7)).msg = (d.to Msg)[i] := by
 obtain ⟨_,h0,h1,h2,h3,h4,h5,_,h6,_,h7⟩ := msg_cell h hi
 simp only [MsgD.msg,h0,h1,h2,h3,h4,h5,h6,h7]
theorem max_if (x : Int) : (if x > 0 then x else 0) = max 0 x := by split <;> omega
theorem pick_under {l : List Msg} (hl : 0 < l.length) (w : Int) : ∃ (h : (Int.tmod (max 0 w) l.length).toNat < l.length),pickUnderWay l (max 0 w) = some (l[(Int.tmod (max 0 w) l.length).toNat]) ∧ 0 ≤ Int.tmod (max 0 w) l.length ∧ Int.tmod (max 0 w) l.length < l.length := by
 have h0 : 0 ≤ max 0 w := by omega
 have h1 : 0 ≤ Int.tmod (max 0 w) l.length := by rw [Int.tmod_eq_emod_of_nonneg h0]; exact Int.emod_nonneg _ (by omega)
 have h2 : Int.tmod (max 0 w) l.length < l.length := by rw [Int.tmod_eq_emod_of_nonneg h0]; exact Int.emod_lt_of_pos _ (by omega)
 refine ⟨by omega,?_,h1,h2⟩
 unfold pickUnderWay
 rw [List.getElem?_eq_getElem]
end Sx
namespace Sv
theorem ctStOk : Ctrs.Ok Try.prog ctSt := by
 intro x hx
 simp only [ctSt,List.mem_cons,List.not_mem_nil,or_false] at hx
 rcases hx with rfl | rfl
 ·exact ctrOf_ok lawCln
 ·exact ctrOf_ok lawRsd
theorem meth_call {s s' : Sx.Sys} {f : FuncId} {n : Nat} {args : List (Nat × SV)} (hm : MethOk f n args s s') {g : SFrm} {w0 : World} {H : HV} {f0 : Nat → Nat} {R : Value → World → Prop} {mem : Mem} (m' : Mem) (ks : List Nat)
  (hs : SysMem s m')
  (k : ∀ m'',SysMem s' m'' → Runs Try.prog (@Ctx.mk w0 H (pinX f0)) ⟨{ g with tmps := putS g.tmps g.await (.lb true),await := none },[],m''⟩ R)
  (hto : (moveM mem (mvOf 100000 [21,22,23] mem)).map (pickK ks) = some m' := by kernel_rfl) (hn : ks.Nodup := by decide) (hfx : (SV.fixedL (mkJ 1 args 0 n) && [g].all fun f=>SV.fixedL f.tmps) = true := by kernel_rfl) (hgp : (g.tmps.all SV.pinned && ([] : List SFrm).all fun f=>f.tmps.all SV.pinned) = true := by kernel_rfl) :
  Runs Try.prog (@Ctx.mk w0 H (pinX f0)) ⟨SFrm.mk f none none [Item.code (cA f [])] (mkJ 1 args 0 n),[g],mem⟩ R :=
 runs_to (MemTo.to _ ks hto hn) hfx (runs_methP hgp (fun H f _=>hm w0 H f m' hs) (fun v m ⟨hv,hm⟩=>by subst hv; exact k m hm))
theorem step_ka {s : Sx.Sys} {w0 : World} {H : HV} {fp : Nat → Nat} {mm : Mem} (h : SysMem s mm) : Runs Try.prog (@Ctx.mk w0 H (pinX fp)) (stK [1,1,0,1,0,1,0,0] 5 19 mm) (RetP w0 H fp fun v m=>v = .lb true ∧ SysMem s m) := by
 obtain ⟨o,k,nv,m,im,tf,tn,sv,bl,hsw,hst,he⟩ := h
 subst he
 apply execRS_sound (noCtr _) [] 100
 cases hst with
 | a st lo n h1 h2 h3 =>
  rw [kaA_in]
  exact retS (fd := Try.f24) (l := [.lb true]) (sysM o k nv m im tf tn s.r s.far s.numbers (.view 0 5 lo n) [(0,.arr 65 st)]) [100000,100001,1,2,0]
   (smem hsw (.a st lo n h1 h2 h3))
 | b st h1 h2 h3 =>
  rw [kaB_in]
  exact retS (fd := Try.f24) (l := [.lb true]) (sysM o k nv m im tf tn s.r s.far s.numbers (.dat st) []) [100000,100001,1,2]
   (smem hsw (.b st h1 h2 h3))
theorem step_ks {s : Sx.Sys} {w0 : World} {H : HV} {fp : Nat → Nat} {mm : Mem} (h : SysMem s mm) : Runs Try.prog (@Ctx.mk w0 H (pinX fp)) (stK [1,1,0,1,0,1,1,1,0,0] 2 23 mm) (RetP w0 H fp fun v m=>v = .lb true ∧ SysMem s m) := by
 obtain ⟨o,k,nv,m,im,tf,tn,sv,bl,hsw,hst,he⟩ := h
 subst he
 apply execRS_sound (noCtr _) [] 100
 cases hst with
 | a st lo n h1 h2 h3 =>
  rw [ksA_in]
  exact retS (fd := Try.f24) (l := [.lb true]) (sysM o k nv m im tf tn s.r s.far s.numbers (.view 0 5 lo n) [(0,.arr 65 st)]) [100000,100001,1,2,0]
   (smem hsw (.a st lo n h1 h2 h3))
 | b st h1 h2 h3 =>
  rw [ksB_in]
  exact retS (fd := Try.f24) (l := [.lb true]) (sysM o k nv m im tf tn s.r s.far s.numbers (.dat st) []) [100000,100001,1,2]
   (smem hsw (.b st h1 h2 h3))
theorem step_kf {s : Sx.Sys} {w0 : World} {H : HV} {fp : Nat → Nat} {mm : Mem} (h : SysMem s mm) : Runs Try.prog (@Ctx.mk w0 H (pinX fp)) (stK [1,1,0,1,0,1,1,1,1,1,0,1,0,0] 15 46 mm) (RetP w0 H fp fun v m=>v = .lb true ∧ SysMem s m) := by
 obtain ⟨o,k,nv,m,im,tf,tn,sv,bl,hsw,hst,he⟩ := h
 subst he
 apply execRS_sound (noCtr _) [] 100
 cases hst with
 | a st lo n h1 h2 h3 =>
  rw [kfA_in]
  exact retS (fd := Try.f24) (l := [.lb true]) (sysM o k nv m im tf tn s.r s.far s.numbers (.view 0 5 lo n) [(0,.arr 65 st)]) [100000,100001,1,2,0]
   (smem hsw (.a st lo n h1 h2 h3))
 | b st h1 h2 h3 =>
  rw [kfB_in]
  exact retS (fd := Try.f24) (l := [.lb true]) (sysM o k nv m im tf tn s.r s.far s.numbers (.dat st) []) [100000,100001,1,2]
   (smem hsw (.b st h1 h2 h3))
theorem stA_law {s : Sx.Sys} {b : Nat} (h : SInv s b) (xk xw xd : Int) (hn : s.numbers + 2 ≤ 1073741824) (hr : (applyS s (max 0 xw) xd).2 = true) {o k nv m im st tf tn : D} {lo n : Nat} (hsw : SW nv m im tf tn s) (hst : Stg 65 s.staged (.view 0 5 lo n) [(0,.arr 65 st)])
  (w0 : World) (H : HV) (fp : Nat → Nat) : Runs Try.prog (@Ctx.mk w0 H (pinX fp)) (sysE 24 105 [(0,.ptr 100000 0),(1,.agg [.int .i64 xk,.int .i64 xw,.int .u8 xd])] (sysM o k nv m im tf tn s.r s.far s.numbers (.view 0 5 lo n) [(0,.arr 65 st)])) (RetP w0 H fp fun v mm=>v = .lb true ∧ SysMem (stepS s (xk,xw,xd)).1 mm) := by
 have hrl := h.rl o k
 have hb := h.2
 have hall := h
 obtain ⟨⟨A,S,Sf,Af,K,hs,hk⟩,_⟩ := h
 have tfl : tf.len = s.toFar.length := by rw [D.Is.length (α := Msg),hsw.tf.2.2]
 have tnl : tn.len = s.toNear.length := by rw [D.Is.length (α := Msg),hsw.tn.2.2]
 have hoff : s.r.src.offered.length = K.length := by rw [hs.r]; simp [relR]
 have hrs := len_resend s.r.src
 apply execRE_sound ctStOk _ 400
 rw [stA_in]
 simp only [rl_backR,src_back,max_if,tfl,tnl]
 refine ⟨fun hc=>?_,fun c0=>⟨fun hc=>?_,fun c1=>⟨fun hc=>?_,fun c2=>⟨fun hc=>?_,fun c3=>⟨fun hc=>?_,fun c4=>?_⟩⟩⟩⟩⟩
 ·have hc : xk = 0 := of_decide_eq_true hc
  have e : (stepS s (xk,xw,xd)).1 = (applyS s (max 0 xw) xd).1 := by unfold stepS; rw [if_pos hc]
  rw [e]
  exact meth_call (apply_meth hall (by omega) hn hr) (g := stF [1,1,0,1,0,1,0,0] 5 19) (sysM o k nv m im tf tn s.r s.far s.numbers (.view 0 5 lo n) [(0,.arr 65 st)]) [100000,100001,1,2,0] (smem hsw hst) (fun m'' h''=>step_ka h'')
 ·have hc : xk = 1 := of_decide_eq_true hc
  have e : (stepS s (xk,xw,xd)).1 = (sendS s).1 := by unfold stepS; rw [if_neg (of_decide_eq_false c0),if_pos hc]
  rw [e]
  exact meth_call (send_meth hall) (g := stF [1,1,0,1,0,1,1,1,0,0] 2 23) (sysM o k nv m im tf tn s.r s.far s.numbers (.view 0 5 lo n) [(0,.arr 65 st)]) [100000,100001,1,2,0] (smem hsw hst) (fun m'' h''=>step_ks h'')
 ·have hc : xk = 2 := of_decide_eq_true hc
  refine ⟨fun hp=>?_,fun hp=>?_⟩
  ·have hp : 0 < s.toFar.length := by have := of_decide_eq_true hp; omega
   obtain ⟨hi,q1,q2,q3⟩ := pick_under hp xw
   have hi' : (Int.tmod (max 0 xw) s.toFar.length).toNat < (tf.to Msg).length := by rw [hsw.tf.2.2]; exact hi
   have e : (stepS s (xk,xw,xd)).1 = (atFarS s ((tf.to Msg)[(Int.tmod (max 0 xw) s.toFar.length).toNat])).1 := by
    unfold stepS
    rw [if_neg (of_decide_eq_false c0),if_neg (of_decide_eq_false c1),if_pos hc]
    simp only [q1,hsw.tf.2.2]
   rw [e,← msg_at hsw.tf.1 hi']
   refine fun _=>⟨by omega,⟨q2,q3,hsw.tf.2.1⟩,⟨(msg_cell hsw.tf.1 hi').1,hsw.tf.2.1⟩,?_⟩
   exact meth_call (far_meth hall _ _ _ _ _ _ _ _) (g := stF [1,1,0,1,0,1,1,1,1,1,0,1,0,0] 15 46) (sysM o k nv m im tf tn s.r s.far s.numbers (.view 0 5 lo n) [(0,.arr 65 st)]) [100000,100001,1,2,0] (smem hsw hst) (fun m'' h''=>step_kf h'')
  ·have hp : s.toFar = [] := List.eq_nil_of_length_eq_zero (by have := of_decide_eq_false hp; omega)
   have e : (stepS s (xk,xw,xd)).1 = s := by
    unfold stepS
    rw [if_neg (of_decide_eq_false c0),if_neg (of_decide_eq_false c1),if_pos hc]
    simp only [pickUnderWay,hp,List.getElem?_nil]
   rw [e]
   exact retS (fd := Try.f24) (l := [.lb true]) (sysM o k nv m im tf tn s.r s.far s.numbers (.view 0 5 lo n) [(0,.arr 65 st)]) [100000,100001,1,2,0] (smem hsw hst)
 ·have hc : xk = 3 := of_decide_eq_true hc
  refine ⟨fun hp=>?_,fun hp=>?_⟩
  ·have hp : 0 < s.toNear.length := by have := of_decide_eq_true hp; omega
   obtain ⟨hi,q1,q2,q3⟩ := pick_under hp xw
   have hi' : (Int.tmod (max 0 xw) s.toNear.length).toNat < (tn.to Msg).length := by rw [hsw.tn.2.2]; exact hi
   have hl := len_learnRl s.r ((tn.to Msg)[(Int.tmod (max 0 xw) s.toNear.length).toNat])
   have e : (stepS s (xk,xw,xd)).1 = learnS s ((tn.to Msg)[(Int.tmod (max 0 xw) s.toNear.length).toNat]) := by
    unfold stepS
    rw [if_neg (of_decide_eq_false c0),if_neg (of_decide_eq_false c1),if_neg (of_decide_eq_false c2),if_pos hc]
    simp only [q1,hsw.tn.2.2]
   rw [e]
   simp only [msg_at hsw.tn.1 hi']
   refine fun hs0=>⟨by omega,⟨q2,q3,hsw.tn.2.1⟩,⟨(msg_cell hsw.tn.1 hi').1,hsw.tn.2.1⟩,hrl,fun hs1=>⟨⟨hsw.tf.2.1,(D.like_is (α := Msg) _ _).fits,by simp only [like_leng]; omega,by simp only [like_leng]; omega⟩,?_⟩⟩
   have ha := rows_app (rows_of hsw.tf.1) (rows_of (D.like_is (hs0 17 2) (learnRl s.r ((tn.to Msg)[(Int.tmod (max 0 xw) s.toNear.length).toNat])).2))
   rw [D.like_to,hsw.tf.2.2] at ha
   obtain ⟨a1,a2⟩ := is_of (h := D.hd (hs1 8 0)) (s := 8) rfl ha
   exact retS (fd := Try.f24) (l := [.lb true]) (sysM (hs0 17 0) (hs0 17 1) nv m im (.slc (D.hd (hs1 8 0)) 8 (List.append tf.rows ((hs0 17 2).like (learnRl s.r ((tn.to Msg)[(Int.tmod (max 0 xw) s.toNear.length).toNat])).2).rows)) tn (learnRl s.r ((tn.to Msg)[(Int.tmod (max 0 xw) s.toNear.length).toNat])).1 s.far s.numbers (.view 0 5 lo n) [(0,.arr 65 st)]) [100000,100001,1,2,0]
    ⟨_,_,_,_,_,_,_,_,_,⟨hsw.nv,hsw.m,hsw.im,⟨a1,rfl,a2⟩,hsw.tn⟩,hst,rfl⟩
  ·have hp : s.toNear = [] := List.eq_nil_of_length_eq_zero (by have := of_decide_eq_false hp; omega)
   have e : (stepS s (xk,xw,xd)).1 = s := by
    unfold stepS
    rw [if_neg (of_decide_eq_false c0),if_neg (of_decide_eq_false c1),if_neg (of_decide_eq_false c2),if_pos hc]
    simp only [pickUnderWay,hp,List.getElem?_nil]
   rw [e]
   exact retS (fd := Try.f24) (l := [.lb true]) (sysM o k nv m im tf tn s.r s.far s.numbers (.view 0 5 lo n) [(0,.arr 65 st)]) [100000,100001,1,2,0] (smem hsw hst)
 ·have hc : xk = 4 := of_decide_eq_true hc
  have e : (stepS s (xk,xw,xd)).1 = resendS s := by
   unfold stepS
   rw [if_neg (of_decide_eq_false c0),if_neg (of_decide_eq_false c1),if_neg (of_decide_eq_false c2),if_neg (of_decide_eq_false c3),if_pos hc]
  rw [e]
  refine fun hs0=>⟨D.like_is _ _,⟨hsw.tf.2.1,(D.like_is (α := Msg) _ _).fits,by simp only [like_leng]; omega,by simp only [like_leng]; omega⟩,?_⟩
  have ha := rows_app (rows_of hsw.tf.1) (rows_of (D.like_is (hs0 10 0) (resend s.r.src)))
  rw [D.like_to,hsw.tf.2.2] at ha
  obtain ⟨a1,a2⟩ := is_of (h := D.hd (hs0 11 0)) (s := 8) rfl ha
  exact retS (fd := Try.f24) (l := [.lb true]) (sysM o k nv m im (.slc (D.hd (hs0 11 0)) 8 (List.append tf.rows ((hs0 10 0).like (resend s.r.src)).rows)) tn s.r s.far s.numbers (.view 0 5 lo n) [(0,.arr 65 st)]) [100000,100001,1,2,0]
   ⟨_,_,_,_,_,_,_,_,_,⟨hsw.nv,hsw.m,hsw.im,⟨a1,rfl,a2⟩,hsw.tn⟩,hst,rfl⟩
 ·have e : (stepS s (xk,xw,xd)).1 = s := by
   unfold stepS
   rw [if_neg (of_decide_eq_false c0),if_neg (of_decide_eq_false c1),if_neg (of_decide_eq_false c2),if_neg (of_decide_eq_false c3),if_neg (of_decide_eq_false c4)]
  rw [e]
  exact retS (fd := Try.f24) (l := [.lb true]) (sysM o k nv m im tf tn s.r s.far s.numbers (.view 0 5 lo n) [(0,.arr 65 st)]) [100000,100001,1,2,0] (smem hsw hst)
theorem stB_law {s : Sx.Sys} {b : Nat} (h : SInv s b) (xk xw xd : Int) (hn : s.numbers + 2 ≤ 1073741824) (hr : (applyS s (max 0 xw) xd).2 = true) {o k nv m im st tf tn : D} {lo n : Nat} (hsw : SW nv m im tf tn s) (hst : Stg 65 s.staged (.dat st) [])
  (w0 : World) (H : HV) (fp : Nat → Nat) : Runs Try.prog (@Ctx.mk w0 H (pinX fp)) (sysE 24 105 [(0,.ptr 100000 0),(1,.agg [.int .i64 xk,.int .i64 xw,.int .u8 xd])] (sysM o k nv m im tf tn s.r s.far s.numbers (.dat st) [])) (RetP w0 H fp fun v mm=>v = .lb true ∧ SysMem (stepS s (xk,xw,xd)).1 mm) := by
 have hrl := h.rl o k
 have hb := h.2
 have hall := h
 obtain ⟨⟨A,S,Sf,Af,K,hs,hk⟩,_⟩ := h
 have tfl : tf.len = s.toFar.length := by rw [D.Is.length (α := Msg),hsw.tf.2.2]
 have tnl : tn.len = s.toNear.length := by rw [D.Is.length (α := Msg),hsw.tn.2.2]
 have hoff : s.r.src.offered.length = K.length := by rw [hs.r]; simp [relR]
 have hrs := len_resend s.r.src
 apply execRE_sound ctStOk _ 400
 rw [stB_in]
 simp only [rl_backR,src_back,max_if,tfl,tnl]
 refine ⟨fun hc=>?_,fun c0=>⟨fun hc=>?_,fun c1=>⟨fun hc=>?_,fun c2=>⟨fun hc=>?_,fun c3=>⟨fun hc=>?_,fun c4=>?_⟩⟩⟩⟩⟩
 ·have hc : xk = 0 := of_decide_eq_true hc
  have e : (stepS s (xk,xw,xd)).1 = (applyS s (max 0 xw) xd).1 := by unfold stepS; rw [if_pos hc]
  rw [e]
  exact meth_call (apply_meth hall (by omega) hn hr) (g := stF [1,1,0,1,0,1,0,0] 5 19) (sysM o k nv m im tf tn s.r s.far s.numbers (.dat st) []) [100000,100001,1,2] (smem hsw hst) (fun m'' h''=>step_ka h'')
 ·have hc : xk = 1 := of_decide_eq_true hc
  have e : (stepS s (xk,xw,xd)).1 = (sendS s).1 := by unfold stepS; rw [if_neg (of_decide_eq_false c0),if_pos hc]
  rw [e]
  exact meth_call (send_meth hall) (g := stF [1,1,0,1,0,1,1,1,0,0] 2 23) (sysM o k nv m im tf tn s.r s.far s.numbers (.dat st) []) [100000,100001,1,2] (smem hsw hst) (fun m'' h''=>step_ks h'')
 ·have hc : xk = 2 := of_decide_eq_true hc
  refine ⟨fun hp=>?_,fun hp=>?_⟩
  ·have hp : 0 < s.toFar.length := by have := of_decide_eq_true hp; omega
   obtain ⟨hi,q1,q2,q3⟩ := pick_under hp xw
   have hi' : (Int.tmod (max 0 xw) s.toFar.length).toNat < (tf.to Msg).length := by rw [hsw.tf.2.2]; exact hi
   have e : (stepS s (xk,xw,xd)).1 = (atFarS s ((tf.to Msg)[(Int.tmod (max 0 xw) s.toFar.length).toNat])).1 := by
    unfold stepS
    rw [if_neg (of_decide_eq_false c0),if_neg (of_decide_eq_false c1),if_pos hc]
    simp only [q1,hsw.tf.2.2]
   rw [e,← msg_at hsw.tf.1 hi']
   refine fun _=>⟨by omega,⟨q2,q3,hsw.tf.2.1⟩,⟨(msg_cell hsw.tf.1 hi').1,hsw.tf.2.1⟩,?_⟩
   exact meth_call (far_meth hall _ _ _ _ _ _ _ _) (g := stF [1,1,0,1,0,1,1,1,1,1,0,1,0,0] 15 46) (sysM o k nv m im tf tn s.r s.far s.numbers (.dat st) []) [100000,100001,1,2] (smem hsw hst) (fun m'' h''=>step_kf h'')
  ·have hp : s.toFar = [] := List.eq_nil_of_length_eq_zero (by have := of_decide_eq_false hp; omega)
   have e : (stepS s (xk,xw,xd)).1 = s := by
    unfold stepS
    rw [if_neg (of_decide_eq_false c0),if_neg (of_decide_eq_false c1),if_pos hc]
    simp only [pickUnderWay,hp,List.getElem?_nil]
   rw [e]
   exact retS (fd := Try.f24) (l := [.lb true]) (sysM o k nv m im tf tn s.r s.far s.numbers (.dat st) []) [100000,100001,1,2] (smem hsw hst)
 ·have hc : xk = 3 := of_decide_eq_true hc
  refine ⟨fun hp=>?_,fun hp=>?_⟩
  ·have hp : 0 < s.toNear.length := by have := of_decide_eq_true hp; omega
   obtain ⟨hi,q1,q2,q3⟩ := pick_under hp xw
   have hi' : (Int.tmod (max 0 xw) s.toNear.length).toNat < (tn.to Msg).length := by rw [hsw.tn.2.2]; exact hi
   have hl := len_learnRl s.r ((tn.to Msg)[(Int.tmod (max 0 xw) s.toNear.length).toNat])
   have e : (stepS s (xk,xw,xd)).1 = learnS s ((tn.to Msg)[(Int.tmod (max 0 xw) s.toNear.length).toNat]) := by
    unfold stepS
    rw [if_neg (of_decide_eq_false c0),if_neg (of_decide_eq_false c1),if_neg (of_decide_eq_false c2),if_pos hc]
    simp only [q1,hsw.tn.2.2]
   rw [e]
   simp only [msg_at hsw.tn.1 hi']
   refine fun hs0=>⟨by omega,⟨q2,q3,hsw.tn.2.1⟩,⟨(msg_cell hsw.tn.1 hi').1,hsw.tn.2.1⟩,hrl,fun hs1=>⟨⟨hsw.tf.2.1,(D.like_is (α := Msg) _ _).fits,by simp only [like_leng]; omega,by simp only [like_leng]; omega⟩,?_⟩⟩
   have ha := rows_app (rows_of hsw.tf.1) (rows_of (D.like_is (hs0 17 2) (learnRl s.r ((tn.to Msg)[(Int.tmod (max 0 xw) s.toNear.length).toNat])).2))
   rw [D.like_to,hsw.tf.2.2] at ha
   obtain ⟨a1,a2⟩ := is_of (h := D.hd (hs1 8 0)) (s := 8) rfl ha
   exact retS (fd := Try.f24) (l := [.lb true]) (sysM (hs0 17 0) (hs0 17 1) nv m im (.slc (D.hd (hs1 8 0)) 8 (List.append tf.rows ((hs0 17 2).like (learnRl s.r ((tn.to Msg)[(Int.tmod (max 0 xw) s.toNear.length).toNat])).2).rows)) tn (learnRl s.r ((tn.to Msg)[(Int.tmod (max 0 xw) s.toNear.length).toNat])).1 s.far s.numbers (.dat st) []) [100000,100001,1,2]
    ⟨_,_,_,_,_,_,_,_,_,⟨hsw.nv,hsw.m,hsw.im,⟨a1,rfl,a2⟩,hsw.tn⟩,hst,rfl⟩
  ·have hp : s.toNear = [] := List.eq_nil_of_length_eq_zero (by have := of_decide_eq_false hp; omega)
   have e : (stepS s (xk,xw,xd)).1 = s := by
    unfold stepS
    rw [if_neg (of_decide_eq_false c0),if_neg (of_decide_eq_false c1),if_neg (of_decide_eq_false c2),if_pos hc]
    simp only [pickUnderWay,hp,List.getElem?_nil]
   rw [e]
   exact retS (fd := Try.f24) (l := [.lb true]) (sysM o k nv m im tf tn s.r s.far s.numbers (.dat st) []) [100000,100001,1,2] (smem hsw hst)
 ·have hc : xk = 4 := of_decide_eq_true hc
  have e : (stepS s (xk,xw,xd)).1 = resendS s := by
   unfold stepS
   rw [if_neg (of_decide_eq_false c0),if_neg (of_decide_eq_false c1),if_neg (of_decide_eq_false c2),if_neg (of_decide_eq_false c3),if_pos hc]
  rw [e]
  refine fun hs0=>⟨D.like_is _ _,⟨hsw.tf.2.1,(D.like_is (α := Msg) _ _).fits,by simp only [like_leng]; omega,by simp only [like_leng]; omega⟩,?_⟩
  have ha := rows_app (rows_of hsw.tf.1) (rows_of (D.like_is (hs0 10 0) (resend s.r.src)))
  rw [D.like_to,hsw.tf.2.2] at ha
  obtain ⟨a1,a2⟩ := is_of (h := D.hd (hs0 11 0)) (s := 8) rfl ha
  exact retS (fd := Try.f24) (l := [.lb true]) (sysM o k nv m im (.slc (D.hd (hs0 11 0)) 8 (List.append tf.rows ((hs0 10 0).like (resend s.r.src)).rows)) tn s.r s.far s.numbers (.dat st) []) [100000,100001,1,2]
   ⟨_,_,_,_,_,_,_,_,_,⟨hsw.nv,hsw.m,hsw.im,⟨a1,rfl,a2⟩,hsw.tn⟩,hst,rfl⟩
 ·have e : (stepS s (xk,xw,xd)).1 = s := by
   unfold stepS
   rw [if_neg (of_decide_eq_false c0),if_neg (of_decide_eq_false c1),if_neg (of_decide_eq_false c2),if_neg (of_decide_eq_false c3),if_neg (of_decide_eq_false c4)]
  rw [e]
  exact retS (fd := Try.f24) (l := [.lb true]) (sysM o k nv m im tf tn s.r s.far s.numbers (.dat st) []) [100000,100001,1,2] (smem hsw hst)
theorem step_meth {s : Sx.Sys} {b : Nat} (h : SInv s b) (xk xw xd : Int) (hn : s.numbers + 2 ≤ 1073741824) (hr : (applyS s (max 0 xw) xd).2 = true) : MethOk 24 105 [(0,.ptr 100000 0),(1,.agg [.int .i64 xk,.int .i64 xw,.int .u8 xd])] s (stepS s (xk,xw,xd)).1 := by
 intro w0 H fp mm ⟨o,k,nv,m,im,tf,tn,sv,bl,hsw,hst,he⟩
 subst he
 cases hst with
 | a st lo n h1 h2 h3=>exact stA_law h xk xw xd hn hr hsw (.a st lo n h1 h2 h3) w0 H fp
 | b st h1 h2 h3=>exact stB_law (lo := 0) (n := 0) h xk xw xd hn hr hsw (.b st h1 h2 h3) w0 H fp
end Sv
end
noncomputable section
open Go Go.Proofs Sx
namespace Sx
theorem farL_len {n : Int} : ∀ (k : Nat) (s : Sx.Sys),(farL k s n).1.staged.length ≤ s.staged.length ∧ (farL k s n).1.toFar = s.toFar ∧ (farL k s n).1.toNear.length ≤ s.toNear.length + k
 | 0,s=>⟨Nat.le_refl _,rfl,Nat.le_refl _⟩
 | k + 1,s=>by
  have base : s.staged.length ≤ s.staged.length ∧ s.toFar = s.toFar ∧ s.toNear.length ≤ s.toNear.length + (k + 1) := ⟨Nat.le_refl _,rfl,by omega⟩
  have hc : s.staged = [] ∨ ∃ c t,s.staged = c :: t := by
   cases s.staged with
   | nil=>exact .inl rfl
   | cons c t=>exact .inr ⟨c,t,rfl⟩
  rcases hc with hst | ⟨c,t,hst⟩
  ·have e : farL (k + 1) s n = (s,true) := by unfold farL; rw [hst]
   rw [e]; exact base
  ·by_cases h1 : c.number ≤ n
   ·by_cases h2 : (applyCy s.image c).2 ≠ 0 ∨ (applyT s.far c.number).2.2 ≠ 0
    ·have e : farL (k + 1) s n = (s,false) := by unfold farL; rw [hst]; simp only; rw [if_pos h1,if_pos h2]
     rw [e]; exact base
    ·have e : farL (k + 1) s n = farL k { s with image := (applyCy s.image c).1,far := (applyT s.far c.number).1,staged := t,toNear := s.toNear ++ (applyT s.far c.number).2.1 } n := by
      conv=>lhs; unfold farL
      rw [hst]; simp only; rw [if_pos h1,if_neg h2]
     rw [e]
     obtain ⟨i1,i2,i3⟩ := farL_len (n := n) k { s with image := (applyCy s.image c).1,far := (applyT s.far c.number).1,staged := t,toNear := s.toNear ++ (applyT s.far c.number).2.1 }
     have h3 := len_applyT s.far c.number
     simp only [List.length_append] at i1 i3
     exact ⟨by rw [hst]; simp only [List.length_cons]; omega,i2,by omega⟩
   ·have e : farL (k + 1) s n = (s,true) := by unfold farL; rw [hst]; simp only; rw [if_neg h1]
    rw [e]; exact base
theorem atFar_len (s : Sx.Sys) (m : Msg) : (atFarS s m).1.staged.length ≤ s.staged.length ∧ (atFarS s m).1.toFar = s.toFar ∧ (atFarS s m).1.toNear.length ≤ s.toNear.length + s.staged.length + 1 := by
 have hx : ∀ p : Sx.Sys × Bool,p = (if m.kind = 10 then farL s.staged.length s m.number else (s,true)) → p.1.staged.length ≤ s.staged.length ∧ p.1.toFar = s.toFar ∧ p.1.toNear.length ≤ s.toNear.length + s.staged.length := fun p hp=>by
  subst hp
  split
  ·exact farL_len _ _
  ·exact ⟨Nat.le_refl _,rfl,by simp only; omega⟩
 unfold atFarS
 generalize hp : (if m.kind = 10 then farL s.staged.length s m.number else (s,true)) = p
 obtain ⟨h1,h2,h3⟩ := hx p hp.symm
 have ha := len_answer p.1.far m
 split
 ·exact ⟨h1,h2,by omega⟩
 ·refine ⟨h1,h2,?_⟩
  simp only [List.length_append]; omega
theorem step_len (s : Sx.Sys) (x : Int × Int × Int) : (stepS s x).1.staged.length ≤ s.staged.length + 1 ∧ (stepS s x).1.toFar.length ≤ s.toFar.length + s.r.src.offered.length + 1 ∧ (stepS s x).1.toNear.length ≤ s.toNear.length + s.staged.length + 1 := by
 have same : s.staged.length ≤ s.staged.length + 1 ∧ s.toFar.length ≤ s.toFar.length + s.r.src.offered.length + 1 ∧ s.toNear.length ≤ s.toNear.length + s.staged.length + 1 := ⟨by omega,by omega,by omega⟩
 unfold stepS
 split
 ·have := len_applyRl s.r (smallC s.numbers (s.numbers + 1 + Int.tmod (max 0 x.2.1) 2) x.2.2)
  unfold applyS
  simp only
  split
  ·exact same
  ·simp only [List.length_append]; exact ⟨by omega,by omega,by omega⟩
 split
 ·have := len_store s.far (nextRl s.r).1.number
  unfold sendS
  split
  ·exact same
  ·simp only [List.length_append,List.length_singleton]; exact ⟨by omega,by omega,by omega⟩
 split
 ·cases pickUnderWay s.toFar (max 0 x.2.1) with
  | none=>exact same
  | some m =>
   obtain ⟨h1,h2,h3⟩ := atFar_len s m
   show (atFarS s m).1.staged.length ≤ s.staged.length + 1 ∧ (atFarS s m).1.toFar.length ≤ s.toFar.length + s.r.src.offered.length + 1 ∧ (atFarS s m).1.toNear.length ≤ s.toNear.length + s.staged.length + 1
   exact ⟨by omega,by rw [h2]; omega,h3⟩
 split
 ·cases pickUnderWay s.toNear (max 0 x.2.1) with
  | none=>exact same
  | some m =>
   have := len_learnRl s.r m
   simp only [learnS,List.length_append]; exact ⟨by omega,by omega,by omega⟩
 split
 ·have := len_resend s.r.src
  simp only [resendS,List.length_append]; exact ⟨by omega,by omega,by omega⟩
 ·exact same
def Run (s : Sx.Sys) (t : Nat) : Prop := (∃ A S Sf Af K,SysOk s A S Sf Af K ∧ K.length ≤ t) ∧ s.numbers ≤ 2 * t ∧ s.staged.length ≤ t ∧ s.toFar.length ≤ 1100 * t ∧ s.toNear.length ≤ 1100 * t ∧ t ≤ 500
theorem Run.inv {s : Sx.Sys} {t : Nat} (h : Run s t) : SInv s 600000 := by
 obtain ⟨⟨A,S,Sf,Af,K,h1,h2⟩,h3,h4,h5,h6,h7⟩ := h
 exact ⟨⟨A,S,Sf,Af,K,h1,by omega⟩,by omega,by omega,by omega,by omega⟩
theorem Run.app {s : Sx.Sys} {t : Nat} (h : Run s t) (w d : Int) : (applyS s (max 0 w) d).2 = true := by
 obtain ⟨⟨A,S,Sf,Af,K,h1,h2⟩,h3,h4,h5,h6,h7⟩ := h
 exact (applyS_ok h1 (by omega) (by omega) (by omega)).1
theorem Run.step {s : Sx.Sys} {t : Nat} (h : Run s t) (ht : t < 500) (x : Int × Int × Int) : Run (stepS s x).1 (t + 1) := by
 obtain ⟨⟨A,S,Sf,Af,K,h1,h2⟩,h3,h4,h5,h6,h7⟩ := h
 obtain ⟨_,a2,A',S',Sf',Af',K',a3,a4⟩ := stepS_ok h1 x (by omega) (by omega)
 obtain ⟨l1,l2,l3⟩ := step_len s x
 have e1 : s.r.src.offered.length = K.length := by rw [h1.r]; simp [relR]
 exact ⟨⟨A',S',Sf',Af',K',a3,by omega⟩,by omega,by omega,by omega,by omega,by omega⟩
theorem run_begin : Run beginS 0 := ⟨⟨0,0,0,0,[],beginS_ok,Nat.le_refl _⟩,by simp [beginS],by simp [beginS],by simp [beginS],by simp [beginS],by omega⟩
end Sx
namespace Sv
theorem lawNewR0 : Law Try.prog 14 (rdQuad.sp spNewR0) := lawNew
theorem ctLSOk : Ctrs.Ok Try.prog ctLS := by
 intro x hx
 simp only [ctLS,List.mem_cons,List.not_mem_nil,or_false] at hx
 rcases hx with rfl | rfl | rfl | rfl
 ·exact ctrOf_ok lawNewR0
 ·exact ctrOf_ok lawNewT1
 ·exact ctrOf_ok lawNewI
 ·exact ctrOf_ok lawAwk
theorem meth_law {s s' : Sx.Sys} {f : FuncId} {n : Nat} {args : List (Nat × SV)} (hm : MethOk f n args s s') {g : SFrm} {w0 : World} {H : HV} {R : Value → World → Prop} {mem : Mem} (m' : Mem) (ks : List Nat)
  (hs : SysMem s m')
  (k : ∀ m'',SysMem s' m'' → Runs Try.prog ⟨w0,H⟩ (backK g m'') R)
  (hto : (moveM mem (mvOf 100000 [21,22,23] mem)).map (pickK ks) = some m' := by kernel_rfl) (hn : ks.Nodup := by decide) (hfx : (SV.fixedL (mkJ 1 args 0 n) && [g].all fun f=>SV.fixedL f.tmps) = true := by kernel_rfl) (hgp : (g.tmps.all SV.pinned && ([] : List SFrm).all fun f=>f.tmps.all SV.pinned) = true := by kernel_rfl) :
  Runs Try.prog ⟨w0,H⟩ ⟨SFrm.mk f none none [Item.code (cA f [])] (mkJ 1 args 0 n),[g],mem⟩ R :=
 runs_to (MemTo.to _ ks hto hn) hfx (runs_meth hgp (fun H f _=>hm w0 H f m' hs) (fun v m ⟨hv,hm⟩=>by subst hv; exact k m hm))
theorem wrapj {j : Nat} (h : j < 1048576) : IntKind.i64.wrap ((j : Int) + 1) = ((j + 1 : Nat) : Int) := by rw [wrap64J (by omega) (by omega)]; rfl
end Sv
end
noncomputable section
open Go Go.Proofs Sx
namespace Sv
theorem four_to (h : Hd) : D.to Int (D.slc h 1 [[D.int IntKind.i64 4]]) = [4] := rfl
theorem four_is (h : Hd) : D.Is Int (D.slc h 1 [[D.int IntKind.i64 4]]) ∧ D.len (D.slc h 1 [[D.int IntKind.i64 4]]) ≤ 1048576 := ⟨(is_of (h := h) (s := 1) rfl (rows_one (ok_int 4) rfl)).1,by simp only [len_slc,List.length_cons,List.length_nil]; omega⟩
theorem img4 : imgOf [4] = im0 := by decide
theorem err4 : sizesErr [4] = 0 := by decide
theorem ok4 : decide (IntKind.wrap IntKind.i64 (IntKind.wrap IntKind.i64 (0 + 0) + 0) = 0) = true := by decide
theorem begin_mem (o k nv : D) (h1 : nv.Is Vol) (h2 : nv.to Vol = im0) : SysMem beginS (sysM o k nv (.slc none 0 [[.int .i64 0,nv]]) nv (.slc none 8 []) (.slc none 8 []) beginS.r beginS.far beginS.numbers (.view 0 5 0 0) [(0,.arr 65 (.slc none 5 []))]) :=
 ⟨_,_,_,_,_,_,_,_,_,⟨⟨h1,h2⟩,map_one h1 h2 _ _,⟨h1,h2⟩,⟨is_nil _ _,rfl,rfl⟩,⟨is_nil _ _,rfl,rfl⟩⟩,.a _ 0 0 rfl rfl ⟨by simp [D.rows],rfl⟩,rfl⟩
end Sv
end
noncomputable section
open Go
namespace Sx
def SysK (s : Sys) : Prop := ∀ c,c ∈ s.staged → c ∈ s.r.kept
theorem SysOk.hat {s : Sys} {A S Sf Af : Int} {K : List Cy} (h : SysOk s A S Sf Af K) : Af = A ∨ Af ∈ K.map Cy.number := by
 obtain ⟨p,hp,hpe⟩ := looks_mem h.img.1
 obtain ⟨_,q2⟩ := h.ims p hp
 rw [hpe] at q2
 rcases q2 with q2 | q2
 ·exact .inl (by have := h.le.1; omega)
 ·exact .inr q2
theorem SysOk.keptK {s : Sys} {A S Sf Af : Int} {K : List Cy} (h : SysOk s A S Sf Af K) : s.r.kept = K := by rw [h.r]; rfl
theorem sendK {s : Sys} (h : SysK s) : SysK (sendS s).1 := by
 unfold sendS
 split
 ·exact h
 ·rename_i hc
  simp only [not_or,Bool.not_eq_false] at hc
  intro c hcs
  rcases List.mem_append.1 hcs with hcs | hcs
  ·exact h c hcs
  ·rw [List.mem_singleton.1 hcs]; exact (next_mem hc.1).1
theorem farK {n : Int} : ∀ (k : Nat) {s : Sys},SysK s → SysK (farL k s n).1
 | 0,_,h=>h
 | k + 1,s,h=>by
  unfold farL
  split
  ·exact h
  ·rename_i c t hs
   split
   ·split
    ·exact h
    ·exact farK k (s := { s with image := (applyCy s.image c).1,far := (applyT s.far c.number).1,staged := t,toNear := s.toNear ++ (applyT s.far c.number).2.1 }) (fun x hx=>h x (by rw [hs]; exact List.mem_cons_of_mem _ hx))
   ·exact h
theorem atFarK {s : Sys} (m : Msg) (h : SysK s) : SysK (atFarS s m).1 := by
 unfold atFarS
 have hx : SysK (if m.kind = 10 then farL s.staged.length s m.number else (s,true)).1 := by
  split
  ·exact farK _ h
  ·exact h
 generalize (if m.kind = 10 then farL s.staged.length s m.number else (s,true)) = p at hx ⊢
 split
 ·exact hx
 ·exact hx
theorem learn_mono {s : Sys} {A S Sf Af : Int} {K : List Cy} (h : SysOk s A S Sf Af K) (hK : SysK s) {m : Msg} (hm : m ∈ s.toNear) : ∃ A' S' K',SysOk (learnS s m) A' S' Sf Af K' ∧ SysK (learnS s m) ∧ A ≤ A' ∧ S ≤ S' ∧ K'.Sublist K ∧
  (m.kind = 11 → m.value = Af → Af ≤ A') ∧ (m.kind = 9 → m.value = Sf → Sf ≤ S') := by
 obtain ⟨A',S',K',h1,_⟩ := learnS_ok h hm
 obtain ⟨q1,q2,q3⟩ := h.near_m m hm
 obtain ⟨l1,l2,l3⟩ := h.le
 obtain ⟨r1,r2,r3⟩ := h.rel.range
 have ha := h.rel.a0
 have htop := h.rel.top
 obtain ⟨mk,mf,mt,mn,mv,me,vs,bs⟩ := m
 simp only at q1 q2 q3
 subst q1; subst q2
 -- what the relay is now
 have hr : (learnS s ⟨mk,2,mt,mn,mv,1,vs,bs⟩).r = (learnRl (relR A S s.numbers K) ⟨mk,2,mt,mn,mv,1,vs,bs⟩).1 := by show (learnRl s.r _).1 = _; rw [h.r]
 have eq : ∀ {a b : Int} {k : List Cy},(learnRl (relR A S s.numbers K) ⟨mk,2,mt,mn,mv,1,vs,bs⟩).1 = relR a b s.numbers k → A' = a ∧ S' = b ∧ K' = k := fun {a b k} e=>by
  have h2 := h1.r
  rw [hr,e] at h2
  simp only [relR,Rl.mk.injEq,Tgt.mk.injEq] at h2
  exact ⟨h2.2.1.2.2.2.symm,h2.2.1.2.2.1.symm,h2.2.2.2.symm⟩
 have hKk : ∀ {a b : Int} {k : List Cy},(learnRl (relR A S s.numbers K) ⟨mk,2,mt,mn,mv,1,vs,bs⟩).1 = relR a b s.numbers k → (∀ c,c ∈ K → a < c.number → c ∈ k) → a ≤ Af → SysK (learnS s ⟨mk,2,mt,mn,mv,1,vs,bs⟩) := fun {a b k} e hk hle c hc=>by
  have hc : c ∈ s.staged := hc
  show c ∈ (learnS s ⟨mk,2,mt,mn,mv,1,vs,bs⟩).r.kept
  rw [hr,e]
  have h3 := hK c hc
  rw [h.keptK] at h3
  have h4 := ((chain_le h.ch).2 c hc).1
  exact hk c h3 (by omega)
 have hsrc := h.rel.src
 have hck := h.rel.ck
 have hsame : ∀ c,c ∈ K → A < c.number → c ∈ K := fun c hc _=>hc
 rcases q3 with ⟨rfl,q4⟩ | ⟨rfl,q4⟩
 ·rcases learn_stored (v := mv) (mn := mn) (t := mt) (vs := vs) (bs := bs) h.rel with e | ⟨e,_,hge⟩
  ·obtain ⟨rfl,rfl,rfl⟩ := eq (by rw [e])
   refine ⟨_,_,_,h1,hKk (by rw [e]) hsame l1,Int.le_refl _,Int.le_refl _,List.Sublist.refl _,(fun h=>by cases h),fun _ hv=>?_⟩
   have hv : mv = Sf := hv
   subst hv
   rcases h.at' with k | k
   ·omega
   ·-- it would have been learnt
    have e2 : (learn ⟨1,2,K'.map Cy.number,S',A'⟩ ⟨9,2,mt,mn,mv,1,vs,bs⟩).1.stored = mv := by
     unfold learn
     rw [if_neg (by simp [hsrc]),if_neg (by simp),if_neg (by simp),if_pos rfl,if_pos ⟨k,by simp only; omega⟩]
    have e3 : (learnRl (relR A' S' s.numbers K') ⟨9,2,mt,mn,mv,1,vs,bs⟩).1.far.stored = mv := by
     unfold learnRl
     rw [if_neg (by simp [hck])]
     simp only
     split <;> exact e2
    rw [e] at e3
    have : S' = mv := e3
    omega
  ·obtain ⟨rfl,rfl,rfl⟩ := eq (by rw [e])
   exact ⟨_,_,_,h1,hKk (by rw [e]) hsame l1,Int.le_refl _,hge,List.Sublist.refl _,(fun h=>by cases h),fun _ hv=>by have hv : S' = Sf := hv; omega⟩
 ·rcases learn_applied (v := mv) (mn := mn) (t := mt) (vs := vs) (bs := bs) h.rel with e | ⟨hv,e,_⟩
  ·obtain ⟨rfl,rfl,rfl⟩ := eq (by rw [e])
   refine ⟨_,_,_,h1,hKk (by rw [e]) hsame l1,Int.le_refl _,Int.le_refl _,List.Sublist.refl _,fun _ hv=>?_,(fun h=>by cases h)⟩
   have hv : mv = Af := hv
   subst hv
   rcases h.hat with k | k
   ·omega
   ·have e2 : (learn ⟨1,2,K'.map Cy.number,S',A'⟩ ⟨11,2,mt,mn,mv,1,vs,bs⟩).1.applied = mv := by
     unfold learn
     rw [if_neg (by simp [hsrc]),if_neg (by simp),if_neg (by simp),if_neg (by simp),if_pos rfl,if_pos k]
    have e3 : (learnRl (relR A' S' s.numbers K') ⟨11,2,mt,mn,mv,1,vs,bs⟩).1.far.applied = mv := by
     unfold learnRl
     rw [if_neg (by simp [hck])]
     simp only
     split <;> exact e2
    rw [e] at e3
    have : A' = mv := e3
    omega
  ·obtain ⟨rfl,rfl,rfl⟩ := eq (by rw [e])
   obtain ⟨c,hc,hce⟩ := List.mem_map.1 hv
   have hlt := ((chain_le h.rel.ch).2 c hc).1
   refine ⟨_,_,_,h1,hKk (a := A') (b := max S A') (k := behindL K A') (by rw [e]) (fun c hc hlt=>List.mem_filter.2 ⟨hc,by simpa using hlt⟩) q4,by omega,Int.le_max_left _ _,List.filter_sublist,fun _ hv=>?_,(fun h=>by cases h)⟩
   have hv : A' = Af := hv
   omega
def clearS (s : Sys) : Sys := { s with toFar := [],toNear := [] }
def farAll (l : List Msg) (s : Sys) : Sys := l.foldl (fun s m=>(atFarS s m).1) s
def nearAll (l : List Msg) (s : Sys) : Sys := l.foldl learnS s
def resentS (s : Sys) : Sys := resendS (sendS (clearS s)).1
def farR (s : Sys) : Sys := farAll (resentS s).toFar (resentS s)
def roundS (s : Sys) : Sys := nearAll (farR s).toNear (farR s)
theorem SysOk.clear {s : Sys} {A S Sf Af : Int} {K : List Cy} (h : SysOk s A S Sf Af K) : SysOk (clearS s) A S Sf Af K :=
 ⟨h.rel,h.r,h.far,h.le,h.at',h.ch,h.last,h.img,h.near,h.new,h.kept,h.stg,(fun _ hm=>nomatch hm),(fun _ hm=>nomatch hm),h.ims⟩
theorem nearAll_ok {Sf Af : Int} : ∀ (l : List Msg) {s : Sys} {A S : Int} {K : List Cy},SysOk s A S Sf Af K → SysK s → (∀ m,m ∈ l → m ∈ s.toNear) → ∃ A' S' K',SysOk (nearAll l s) A' S' Sf Af K' ∧ SysK (nearAll l s) ∧ A ≤ A' ∧ S ≤ S' ∧ K'.Sublist K ∧
  ((∃ m,m ∈ l ∧ m.kind = 11 ∧ m.value = Af) → Af ≤ A') ∧ ((∃ m,m ∈ l ∧ m.kind = 9 ∧ m.value = Sf) → Sf ≤ S')
 | [],s,A,S,K,h,hk,_=>⟨A,S,K,h,hk,Int.le_refl _,Int.le_refl _,List.Sublist.refl _,(fun ⟨_,h,_⟩=>nomatch h),(fun ⟨_,h,_⟩=>nomatch h)⟩
 | m :: r,s,A,S,K,h,hk,hl=>by
  obtain ⟨A1,S1,K1,g1,g2,g3,g4,g5,g6,g7⟩ := learn_mono h hk (hl m List.mem_cons_self)
  obtain ⟨A2,S2,K2,f1,f2,f3,f4,f5,f6,f7⟩ := nearAll_ok r g1 g2 (fun x hx=>hl x (List.mem_cons_of_mem _ hx))
  refine ⟨A2,S2,K2,f1,f2,by omega,by omega,f5.trans g5,fun ⟨x,hx,h1,h2⟩=>?_,fun ⟨x,hx,h1,h2⟩=>?_⟩
  ·rcases List.mem_cons.1 hx with rfl | hx
   ·have := g6 h1 h2; omega
   ·exact f6 ⟨x,hx,h1,h2⟩
  ·rcases List.mem_cons.1 hx with rfl | hx
   ·have := g7 h1 h2; omega
   ·exact f7 ⟨x,hx,h1,h2⟩
theorem answer_at {Sf Af : Int} {m : Msg} (hck : checkTarget ⟨1,2,Sf,Af⟩ = 0) (m2 : m.to = 2) (m3 : m.epoch = 1) (hk : m.kind = 8 ∨ m.kind = 10) :
  (answer ⟨1,2,Sf,Af⟩ m).2 = if m.kind = 8 then [⟨9,2,0,0,Sf,1,[],[]⟩] else [⟨11,2,0,0,Af,1,[],[]⟩] := by
 unfold answer
 rw [if_neg (by simp [hck,m2,m3,okTime]; omega),if_neg (by simp [m3])]
 simp only [m3,gt_iff_lt,Int.lt_irrefl,if_false]
 split <;> rfl
theorem SysOk.tck {s : Sys} {A S Sf Af : Int} {K : List Cy} (h : SysOk s A S Sf Af K) : checkTarget ⟨1,2,Sf,Af⟩ = 0 := by
 obtain ⟨r1,r2,r3⟩ := h.rel.range
 have ha := h.rel.a0
 have htop := h.rel.top
 obtain ⟨l1,l2,l3⟩ := h.le
 obtain ⟨cl,_⟩ := chain_le h.ch
 rw [h.last] at cl
 exact tgt_ck (by omega) (by omega) (by omega)
theorem farOffers {A S Sf Af : Int} {K : List Cy} : ∀ (l : List Msg) {s : Sys},(∀ m,m ∈ l → m.kind = 8 ∧ m.to = 2 ∧ m.epoch = 1) → SysOk s A S Sf Af K → SysK s → SysOk (farAll l s) A S Sf Af K ∧ SysK (farAll l s) ∧ (∀ m,m ∈ s.toNear → m ∈ (farAll l s).toNear) ∧ (l ≠ [] → ⟨9,2,0,0,Sf,1,[],[]⟩ ∈ (farAll l s).toNear)
 | [],s,_,h,hk=>⟨h,hk,fun _ hm=>hm,fun h=>absurd rfl h⟩
 | m :: r,s,hl,h,hk=>by
  obtain ⟨q1,q2,q3⟩ := hl m List.mem_cons_self
  have e : (atFarS s m).1 = { s with far := (answer s.far m).1,toNear := s.toNear ++ (answer s.far m).2 } := by
   unfold atFarS
   simp only [if_neg (show ¬m.kind = 10 by omega)]
   rw [if_neg (by simp)]
  have h1 := answerS_ok h ⟨.inl q1,q2,q3⟩
  rw [← e] at h1
  have hn : ⟨9,2,0,0,Sf,1,[],[]⟩ ∈ (atFarS s m).1.toNear := by
   rw [e]
   refine List.mem_append_right _ ?_
   rw [h.far,answer_at h.tck q2 q3 (.inl q1),if_pos q1]
   exact List.mem_cons_self
  have hm : ∀ x,x ∈ s.toNear → x ∈ (atFarS s m).1.toNear := fun x hx=>by rw [e]; exact List.mem_append_left _ hx
  obtain ⟨f1,f2,f3,_⟩ := farOffers r (fun x hx=>hl x (List.mem_cons_of_mem _ hx)) h1 (atFarK m hk)
  exact ⟨f1,f2,fun x hx=>f3 x (hm x hx),fun _=>f3 _ hn⟩
theorem far_done {n : Int} : ∀ (k : Nat) {s : Sys},s.staged.length ≤ k → (farL k s n).2 = true → ∀ c,(farL k s n).1.staged.head? = some c → n < c.number
 | 0,s,hk,_,c,hc=>by
  unfold farL at hc
  have : s.staged = [] := List.eq_nil_of_length_eq_zero (by omega)
  rw [this] at hc; cases hc
 | k + 1,s,hk,h2,c,hc=>by
  have hcc : s.staged = [] ∨ ∃ x t,s.staged = x :: t := by
   cases s.staged with
   | nil=>exact .inl rfl
   | cons c t=>exact .inr ⟨c,t,rfl⟩
  rcases hcc with hst | ⟨x,t,hst⟩
  ·have e : farL (k + 1) s n = (s,true) := by unfold farL; rw [hst]
   rw [e] at hc
   simp only at hc
   rw [hst] at hc; cases hc
  ·by_cases h1 : x.number ≤ n
   ·by_cases h3 : (applyCy s.image x).2 ≠ 0 ∨ (applyT s.far x.number).2.2 ≠ 0
    ·have e : farL (k + 1) s n = (s,false) := by unfold farL; rw [hst]; simp only; rw [if_pos h1,if_pos h3]
     rw [e] at h2; cases h2
    ·have e : farL (k + 1) s n = farL k { s with image := (applyCy s.image x).1,far := (applyT s.far x.number).1,staged := t,toNear := s.toNear ++ (applyT s.far x.number).2.1 } n := by
      conv=>lhs; unfold farL
      rw [hst]; simp only; rw [if_pos h1,if_neg h3]
     rw [e] at h2 hc
     rw [hst] at hk
     exact far_done k (s := { s with image := (applyCy s.image x).1,far := (applyT s.far x.number).1,staged := t,toNear := s.toNear ++ (applyT s.far x.number).2.1 }) (by simp only [List.length_cons] at hk; simp only; omega) h2 c hc
   ·have e : farL (k + 1) s n = (s,true) := by unfold farL; rw [hst]; simp only; rw [if_neg h1]
    rw [e] at hc
    simp only at hc
    rw [hst] at hc
    simp only [List.head?_cons,Option.some.injEq] at hc
    subst hc; omega
theorem farCommit {s : Sys} {A S Sf Af : Int} {K : List Cy} (h : SysOk s A S Sf Af K) (hk : SysK s) : ∃ Af',Af ≤ Af' ∧ SysOk (atFarS s ⟨10,0,2,S,0,1,[],[]⟩).1 A S Sf Af' K ∧ SysK (atFarS s ⟨10,0,2,S,0,1,[],[]⟩).1 ∧ S ≤ Af' ∧ ⟨11,2,0,0,Af',1,[],[]⟩ ∈ (atFarS s ⟨10,0,2,S,0,1,[],[]⟩).1.toNear := by
 obtain ⟨Af',f1,f2,_,f4⟩ := farL_ok (n := S) s.staged.length h
 have e : (atFarS s ⟨10,0,2,S,0,1,[],[]⟩).1 = { (farL s.staged.length s S).1 with far := (answer (farL s.staged.length s S).1.far ⟨10,0,2,S,0,1,[],[]⟩).1,toNear := (farL s.staged.length s S).1.toNear ++ (answer (farL s.staged.length s S).1.far ⟨10,0,2,S,0,1,[],[]⟩).2 } := by
  unfold atFarS
  simp only [if_true]
  rw [if_neg (by rw [f2]; decide)]
 have h1 := answerS_ok f4 (m := ⟨10,0,2,S,0,1,[],[]⟩) ⟨.inr rfl,rfl,rfl⟩
 have hK := atFarK ⟨10,0,2,S,0,1,[],[]⟩ hk
 rw [← e] at h1
 refine ⟨Af',f1,h1,hK,?_,?_⟩
 ·have hKf : SysK (farL s.staged.length s S).1 := farK _ hk
  obtain ⟨l1,l2,l3⟩ := f4.le
  cases hs : (farL s.staged.length s S).1.staged with
  | nil =>
   have := f4.last
   rw [hs] at this
   have : Af' = Sf := this
   omega
  | cons c t =>
   have hd := far_done (n := S) s.staged.length (Nat.le_refl _) f2 c (by rw [hs]; rfl)
   have hc := hKf c (by rw [hs]; exact List.mem_cons_self)
   rw [f4.keptK] at hc
   have hch := f4.ch
   rw [hs] at hch
   obtain ⟨⟨d,hb⟩,_,_,_⟩ := hch
   have hb : c.base = Af' := by rw [hb]; rfl
   rcases Int.lt_or_le Af' S with hlt | hle
   ·have := chain_between f4.rel.ch hc f4.rel.st (by omega) hd
    omega
   ·exact hle
 ·rw [e]
  refine List.mem_append_right _ ?_
  rw [f4.far,answer_at f4.tck rfl rfl (.inr rfl),if_neg (by simp)]
  exact List.mem_cons_self
theorem send_far (s : Sys) : (sendS s).1.toFar = s.toFar := by unfold sendS; split <;> rfl
theorem send_r (s : Sys) : (sendS s).1.r = s.r := by unfold sendS; split <;> rfl
theorem resent_far {s : Sys} {A S Sf Af : Int} {K : List Cy} (h : SysOk s A S Sf Af K) : (resentS s).toFar = (if S > A then [⟨10,0,2,S,0,1,[],[]⟩] else []) ++ ((K.map Cy.number).filter fun x=>decide (x > S)).map fun x=>⟨8,0,2,x,0,1,[],[]⟩ := by
 unfold resentS resendS
 simp only [send_far,send_r]
 have e : (clearS s).r.src = ⟨1,2,K.map Cy.number,S,A⟩ := by show s.r.src = _; rw [h.r]; rfl
 rw [e]
 unfold resend
 rw [if_neg (by simp [h.rel.src])]
 rfl
def mu (A S : Int) (K : List Cy) : Nat := 2 * K.length + if S = A then 1 else 0
theorem sub_lt {K' K : List Cy} (h : K'.Sublist K) {c : Cy} (hc : c ∈ K) (hn : c ∉ K') : K'.length < K.length := by
 rcases Nat.lt_or_ge K'.length K.length with hl | hl
 ·exact hl
 ·have := h.eq_of_length_le hl
  rw [this] at hn; exact absurd hc hn
theorem round_ok {s : Sys} {A S Sf Af : Int} {K : List Cy} (h : SysOk s A S Sf Af K) (hk : SysK s) (hne : K ≠ []) : ∃ A' S' Sf' Af' K',SysOk (roundS s) A' S' Sf' Af' K' ∧ SysK (roundS s) ∧ K'.length ≤ K.length ∧ mu A' S' K' < mu A S K := by
 have hc := h.clear
 have hkc : SysK (clearS s) := hk
 obtain ⟨_,_,Sf1,g1,g2⟩ := sendS_ok hc
 have hs1 : SysK (sendS (clearS s)).1 := sendK hkc
 have g3 : SysOk (resentS s) A S Sf1 Af K := resendS_ok g2
 have hs2 : SysK (resentS s) := hs1
 have hfar := resent_far h
 obtain ⟨r1,r2,r3⟩ := h.rel.range
 have offers : ∀ m,m ∈ ((K.map Cy.number).filter fun x=>decide (x > S)).map (fun x=>(⟨8,0,2,x,0,1,[],[]⟩ : Msg)) → m.kind = 8 ∧ m.to = 2 ∧ m.epoch = 1 := fun m hm=>by
  obtain ⟨x,_,rfl⟩ := List.mem_map.1 hm
  exact ⟨rfl,rfl,rfl⟩
 by_cases hSA : S > A
 ·-- the far site is told to apply what it has stored
  rw [if_pos hSA] at hfar
  obtain ⟨Af2,f1,f2,f3,f4,f5⟩ := farCommit g3 hs2
  obtain ⟨o1,o2,o3,_⟩ := farOffers _ offers f2 f3
  have e : farR s = farAll (((K.map Cy.number).filter fun x=>decide (x > S)).map fun x=>⟨8,0,2,x,0,1,[],[]⟩) (atFarS (resentS s) ⟨10,0,2,S,0,1,[],[]⟩).1 := by
   unfold farR
   rw [hfar]; rfl
  obtain ⟨A3,S3,K3,n1,n2,n3,n4,n5,n6,_⟩ := nearAll_ok (farAll (((K.map Cy.number).filter fun x=>decide (x > S)).map fun x=>⟨8,0,2,x,0,1,[],[]⟩) (atFarS (resentS s) ⟨10,0,2,S,0,1,[],[]⟩).1).toNear o1 o2 (fun _ hm=>hm)
  have hA := n6 ⟨_,o3 _ f5,rfl,rfl⟩
  refine ⟨A3,S3,Sf1,Af2,K3,?_,?_,n5.length_le,?_⟩
  ·unfold roundS; rw [e]; exact n1
  ·unfold roundS; rw [e]; exact n2
  ·have hSK : S ∈ K.map Cy.number := by
    rcases h.rel.st with k | k
    ·omega
    ·exact k
   obtain ⟨c,hcK,hcS⟩ := List.mem_map.1 hSK
   have hlt := sub_lt n5 hcK (fun hc3=>by
    have := ((chain_le n1.rel.ch).2 c hc3).1
    omega)
   unfold mu
   rw [if_neg (show ¬S = A by omega)]
   split <;> omega
 ·-- the far site says what it has stored
  have hSA' : S = A := by omega
  subst hSA'
  rw [if_neg hSA,List.nil_append] at hfar
  -- the next cycle
  obtain ⟨c,t,hK⟩ : ∃ c t,K = c :: t := by
   cases K with
   | nil=>exact absurd rfl hne
   | cons c t=>exact ⟨c,t,rfl⟩
  have hcm : c ∈ K := by rw [hK]; exact List.mem_cons_self
  have hcn := ((chain_le h.rel.ch).2 c hcm).1
  have hoff : ((K.map Cy.number).filter fun x=>decide (x > S)).map (fun x=>(⟨8,0,2,x,0,1,[],[]⟩ : Msg)) ≠ [] := by
   intro h0
   have h0 := List.map_eq_nil_iff.1 h0
   have : c.number ∈ (K.map Cy.number).filter fun x=>decide (x > S) := List.mem_filter.2 ⟨List.mem_map_of_mem hcm,by simpa using hcn⟩
   rw [h0] at this; cases this
  have hSf : S < Sf1 := by
   -- what is sent is stored
   have hnx : nextRl (clearS s).r = (c,true) := by
    have hck : ckRl (clearS s).r = 0 := by show ckRl s.r = 0; rw [h.r]; exact h.rel.ck
    unfold nextRl
    rw [if_neg (by simp [hck])]
    have e1 : (clearS s).r.kept = K := by show s.r.kept = K; rw [h.r]; rfl
    have e2 : (clearS s).r.src.stored = S := by show s.r.src.stored = S; rw [h.r]; rfl
    have e3 : behindL K S = c :: t := by
     unfold behindL
     rw [List.filter_eq_self.2 fun x hx=>by have := ((chain_le h.rel.ch).2 x hx).1; simpa using this]
     exact hK
    rw [e1,e2,e3]
   have hst1 : (sendS (clearS s)).1.far.stored = Sf1 := by rw [g2.far]
   have hst0 : (clearS s).far.stored = Sf := by show s.far.stored = Sf; rw [h.far]
   obtain ⟨l1,l2,l3⟩ := h.le
   rcases Int.lt_or_le S Sf with hlt | hle
   ·omega
   ·have hSS : Sf = S := by omega
    have hch := h.rel.ch
    rw [hK] at hch
    obtain ⟨⟨d,hb⟩,_,hm,_⟩ := hch
    have hb : c.base = S := by rw [hb]; rfl
    have es : (sendS (clearS s)).1 = { clearS s with far := (store (clearS s).far (nextRl (clearS s).r).1.number).1,staged := (clearS s).staged ++ [(nextRl (clearS s).r).1],toNear := (clearS s).toNear ++ (store (clearS s).far (nextRl (clearS s).r).1.number).2.1 } := by
     unfold sendS
     rw [if_neg (by rw [hnx,hst0]; simp; omega)]
    have ha := h.rel.a0
    obtain ⟨cl,_⟩ := chain_le h.ch
    rw [h.last] at cl
    have e4 : (store (clearS s).far (nextRl (clearS s).r).1.number).1.stored = c.number := by
     rw [hnx]
     show (store s.far c.number).1.stored = c.number
     rw [h.far]
     unfold store
     rw [if_neg (by simp [h.tck]),if_neg (by simp only; omega),if_neg (by omega)]
    rw [es] at hst1
    have : (store (clearS s).far (nextRl (clearS s).r).1.number).1.stored = Sf1 := hst1
    omega
  obtain ⟨o1,o2,o3,o4⟩ := farOffers _ offers g3 hs2
  have e : farR s = farAll (((K.map Cy.number).filter fun x=>decide (x > S)).map fun x=>⟨8,0,2,x,0,1,[],[]⟩) (resentS s) := by
   unfold farR
   rw [hfar]
  obtain ⟨A3,S3,K3,n1,n2,n3,n4,n5,_,n7⟩ := nearAll_ok (farAll (((K.map Cy.number).filter fun x=>decide (x > S)).map fun x=>⟨8,0,2,x,0,1,[],[]⟩) (resentS s)).toNear o1 o2 (fun _ hm=>hm)
  have hS3 := n7 ⟨_,o4 hoff,rfl,rfl⟩
  refine ⟨A3,S3,Sf1,Af,K3,?_,?_,n5.length_le,?_⟩
  ·unfold roundS; rw [e]; exact n1
  ·unfold roundS; rw [e]; exact n2
  ·unfold mu
   rw [if_pos rfl]
   have hle := n5.length_le
   split
   ·-- it has applied something
    have hlt := sub_lt n5 hcm (fun hc3=>?_)
    ·omega
    ·-- everything up to it was applied
     have h4 := ((chain_le n1.rel.ch).2 c hc3).1
     have hA3 : A3 = S3 := by omega
     -- what has been applied is the number of a kept cycle
     have h5 : Sf1 ≤ A3 := by omega
     rcases g3.at' with k | k
     ·omega
     ·obtain ⟨x,hx,hxe⟩ := List.mem_map.1 k
      -- the first cycle is the smallest
      have hch := h.rel.ch
      rw [hK] at hch hx
      obtain ⟨_,_,_,hch2⟩ := hch
      rcases List.mem_cons.1 hx with rfl | hx
      ·omega
      ·have := ((chain_le hch2).2 x hx).1
       omega
   ·omega
def FarRun : List Msg → Sx.Sys → Prop
 | [],_=>True
 | m :: l,s=>Run s 500 ∧ FarRun l (atFarS s m).1
def NearRun (L : List Msg) : List Msg → Sx.Sys → Prop
 | [],_=>True
 | m :: l,s=>(Run s 500 ∧ s.toNear = L) ∧ NearRun L l (learnS s m)
def Rn (s : Sx.Sys) (g : Nat) : Prop := (∃ A S Sf Af K,SysOk s A S Sf Af K ∧ K.length ≤ 30) ∧ s.numbers ≤ 60 ∧ s.staged.length ≤ g
theorem Rn.run {s : Sx.Sys} {g : Nat} (h : Rn s g) (hg : g ≤ 500) (hf : s.toFar.length ≤ 550000) (hn : s.toNear.length ≤ 550000) : Run s 500 := by
 obtain ⟨⟨A,S,Sf,Af,K,h1,h2⟩,h3,h4⟩ := h
 exact ⟨⟨A,S,Sf,Af,K,h1,by omega⟩,by omega,by omega,by omega,by omega,by omega⟩
theorem far_run : ∀ (l : List Msg) {s : Sx.Sys} {g : Nat},Rn s g → g ≤ 110 → (∀ m,m ∈ l → m ∈ s.toFar) → s.toFar.length ≤ 40 → s.toNear.length + 111 * l.length ≤ 550000 →
  FarRun l s ∧ Rn (farAll l s) g ∧ (farAll l s).toFar = s.toFar ∧ (farAll l s).toNear.length ≤ s.toNear.length + 111 * l.length
 | [],s,g,h,_,_,_,_=>⟨trivial,h,rfl,by simp [farAll]⟩
 | m :: l,s,g,h,hg,hl,hf,hn=>by
  simp only [List.length_cons] at hn ⊢
  have hr := h.run (by omega) (by omega) (by omega)
  obtain ⟨⟨A,S,Sf,Af,K,h1,h2⟩,h3,h4⟩ := h
  obtain ⟨Af',_,_,e,o⟩ := atFarS_ok h1 (hl m List.mem_cons_self)
  obtain ⟨l1,l2,l3⟩ := atFar_len s m
  obtain ⟨i1,i2,i3,i4⟩ := far_run l (s := (atFarS s m).1) (g := g) ⟨⟨A,S,Sf,Af',K,o,h2⟩,by rw [e]; exact h3,by omega⟩ hg (fun x hx=>by rw [l2]; exact hl x (List.mem_cons_of_mem _ hx)) (by rw [l2]; exact hf) (by omega)
  exact ⟨⟨hr,i1⟩,i2,i3.trans l2,Nat.le_trans i4 (by omega)⟩
theorem near_run (L : List Msg) (hL : L.length ≤ 550000) : ∀ (l : List Msg) {s : Sx.Sys} {g : Nat},Rn s g → g ≤ 110 → s.toNear = L → (∀ m,m ∈ l → m ∈ L) → s.toFar.length + l.length ≤ 550000 →
  NearRun L l s ∧ Rn (nearAll l s) g ∧ (nearAll l s).toNear = L ∧ (nearAll l s).toFar.length ≤ s.toFar.length + l.length
 | [],s,g,h,_,hn,_,_=>⟨trivial,h,hn,by simp [nearAll]⟩
 | m :: l,s,g,h,hg,hn,hl,hf=>by
  simp only [List.length_cons] at hf ⊢
  have hr := h.run (by omega) (by omega) (by rw [hn]; exact hL)
  obtain ⟨⟨A,S,Sf,Af,K,h1,h2⟩,h3,h4⟩ := h
  obtain ⟨A',S',K',o,e⟩ := learnS_ok h1 (m := m) (by rw [hn]; exact hl m List.mem_cons_self)
  have hlen : (learnS s m).toFar.length ≤ s.toFar.length + 1 := by
   have := len_learnRl s.r m
   simp only [learnS,List.length_append]; omega
  obtain ⟨i1,i2,i3,i4⟩ := near_run L hL l (s := learnS s m) (g := g) ⟨⟨A',S',Sf,Af,K',o,by omega⟩,h3,h4⟩ hg hn (fun x hx=>hl x (List.mem_cons_of_mem _ hx)) (by omega)
  exact ⟨⟨⟨hr,hn⟩,i1⟩,i2,i3,Nat.le_trans i4 (by omega)⟩
theorem send_len (s : Sx.Sys) : (sendS s).1.numbers = s.numbers ∧ (sendS s).1.staged.length ≤ s.staged.length + 1 ∧ (sendS s).1.toNear.length ≤ s.toNear.length + 1 := by
 have := len_store s.far (nextRl s.r).1.number
 unfold sendS
 split
 ·exact ⟨rfl,Nat.le_succ _,Nat.le_succ _⟩
 ·simp only [List.length_append,List.length_singleton]; exact ⟨trivial,by omega,by omega⟩
theorem round_run {s : Sx.Sys} {g : Nat} (h : Rn s g) (hg : g ≤ 100) : Run (clearS s) 500 ∧ Run (sendS (clearS s)).1 500 ∧ FarRun (resentS s).toFar (resentS s) ∧ (resentS s).toFar.length ≤ 40 ∧
  NearRun (farR s).toNear (farR s).toNear (farR s) ∧ (farR s).toNear.length ≤ 550000 ∧ Rn (roundS s) (g + 1) ∧ (roundS s).toNear.length ≤ 550000 ∧ (roundS s).toFar.length ≤ 550000 ∧ (farR s).toFar = (resentS s).toFar := by
 have h0 : Rn (clearS s) g := by
  obtain ⟨⟨A,S,Sf,Af,K,h1,h2⟩,h3,h4⟩ := h
  exact ⟨⟨A,S,Sf,Af,K,h1.clear,h2⟩,h3,h4⟩
 have r0 := h0.run (by omega) (by simp [clearS]) (by simp [clearS])
 obtain ⟨q1,q2,q3⟩ := send_len (clearS s)
 have q3 : (sendS (clearS s)).1.toNear.length ≤ 1 := q3
 have q4 := send_far (clearS s)
 have q5 := send_r (clearS s)
 have h1 : Rn (sendS (clearS s)).1 (g + 1) := by
  obtain ⟨⟨A,S,Sf,Af,K,h1,h2⟩,h3,h4⟩ := h0
  obtain ⟨_,_,Sf',_,o⟩ := sendS_ok h1
  exact ⟨⟨A,S,Sf',Af,K,o,h2⟩,by rw [q1]; exact h3,by omega⟩
 have r1 := h1.run (by omega) (by rw [q4]; simp [clearS]) (by omega)
 have hf : (resentS s).toFar.length ≤ 40 := by
  obtain ⟨⟨A,S,Sf,Af,K,o,h2⟩,h3,h4⟩ := h1
  have e1 : (sendS (clearS s)).1.r.src.offered.length = K.length := by rw [o.r]; simp [relR]
  have hl := len_resend (sendS (clearS s)).1.r.src
  show ((sendS (clearS s)).1.toFar ++ resend (sendS (clearS s)).1.r.src).length ≤ 40
  rw [List.length_append,q4]
  show (0 : Nat) + _ ≤ _
  omega
 have h2 : Rn (resentS s) (g + 1) := by
  obtain ⟨⟨A,S,Sf,Af,K,o,h2⟩,h3,h4⟩ := h1
  exact ⟨⟨A,S,Sf,Af,K,resendS_ok o,h2⟩,h3,h4⟩
 have q6 : (resentS s).toNear.length ≤ 1 := q3
 obtain ⟨f1,f2,f3,f4⟩ := far_run (resentS s).toFar h2 (by omega) (fun _ h=>h) hf (by omega)
 have hn : (farR s).toNear.length ≤ 5000 := Nat.le_trans f4 (by omega)
 have hff : (farR s).toFar = (resentS s).toFar := f3
 obtain ⟨n1,n2,n3,n4⟩ := near_run (farR s).toNear (by omega) (farR s).toNear (s := farR s) f2 (by omega) rfl (fun _ h=>h) (by rw [hff]; omega)
 refine ⟨r0,r1,f1,hf,n1,by omega,n2,?_,?_,hff⟩
 ·show (nearAll _ _).toNear.length ≤ _
  rw [n3]; omega
 ·refine Nat.le_trans n4 ?_
  rw [hff]; omega
def Ar (s : Sx.Sys) (i q : Nat) : Prop := (∃ A S Sf Af K,SysOk s A S Sf Af K ∧ K.length ≤ 30 ∧ mu A S K ≤ q) ∧ SysK s ∧ s.numbers ≤ 60 ∧ s.staged.length ≤ 30 + i ∧ s.toFar.length ≤ 550000 ∧ s.toNear.length ≤ 550000
theorem Ar.rn {s : Sx.Sys} {i q : Nat} (h : Ar s i q) : Rn s (30 + i) := by
 obtain ⟨⟨A,S,Sf,Af,K,h1,h2,_⟩,_,h3,h4,_⟩ := h
 exact ⟨⟨A,S,Sf,Af,K,h1,h2⟩,h3,h4⟩
theorem Ar.next {s : Sx.Sys} {i q : Nat} (h : Ar s i (q + 1)) (hk : s.r.kept ≠ []) (hi : i < 70) : Ar (roundS s) (i + 1) q := by
 obtain ⟨_,_,_,_,_,_,r7,r8,r9,_⟩ := round_run h.rn (by omega)
 obtain ⟨⟨A,S,Sf,Af,K,h1,h2,h3⟩,h4,_⟩ := h
 rw [h1.keptK] at hk
 obtain ⟨A',S',Sf',Af',K',o1,o2,o3,o4⟩ := round_ok h1 h4 hk
 exact ⟨⟨A',S',Sf',Af',K',o1,by omega,by omega⟩,o2,r7.2.1,r7.2.2,r9,r8⟩
theorem Ar.done {s : Sx.Sys} {i : Nat} (h : Ar s i 0) : s.r.kept = [] := by
 obtain ⟨⟨A,S,Sf,Af,K,h1,h2,h3⟩,_⟩ := h
 unfold mu at h3
 rw [h1.keptK]
 exact List.eq_nil_of_length_eq_zero (by omega)
theorem Ar.end' {s : Sx.Sys} {i q : Nat} (h : Ar s i q) (hk : s.r.kept = []) : s.far.applied = s.r.near.applied ∧ s.image = s.near ∧ lagRl s.r = 0 ∧ Im4 s.near := by
 obtain ⟨⟨A,S,Sf,Af,K,h1,_⟩,_⟩ := h
 have hK : K = [] := by rw [← h1.keptK]; exact hk
 subst hK
 obtain ⟨_,e1,e2,e3,_⟩ := arrived h1
 exact ⟨e1,e2,e3,h1.near.2⟩
theorem pick_mem {l : List Msg} {w : Int} {m : Msg} (h : pickUnderWay l w = some m) : m ∈ l := List.mem_of_getElem? h
theorem step_kept {s : Sx.Sys} {t : Nat} (h : Run s t) (hk : SysK s) (x : Int × Int × Int) : SysK (stepS s x).1 := by
 obtain ⟨⟨A,S,Sf,Af,K,h1,h2⟩,h3,h4,h5,h6,h7⟩ := h
 unfold stepS
 split
 ·obtain ⟨_,_,o⟩ := applyS_ok (w := max 0 x.2.1) (d := x.2.2) h1 (by omega) (by omega) (by omega)
  have e : (applyS s (max 0 x.2.1) x.2.2).1.staged = s.staged := by unfold applyS; simp only; split <;> rfl
  intro c hc
  rw [e] at hc
  have := hk c hc
  rw [h1.keptK] at this
  rw [o.keptK]
  exact List.mem_append_left _ this
 split
 ·exact sendK hk
 split
 ·cases hp : pickUnderWay s.toFar (max 0 x.2.1) with
  | none=>exact hk
  | some m=>exact atFarK m hk
 split
 ·cases hp : pickUnderWay s.toNear (max 0 x.2.1) with
  | none=>exact hk
  | some m =>
   obtain ⟨_,_,_,_,o,_⟩ := learn_mono h1 hk (pick_mem hp)
   exact o
 split
 ·exact hk
 ·exact hk
theorem run_ar {s : Sx.Sys} {t : Nat} (h : Run s t) (hk : SysK s) (ht : t ≤ 30) : Ar s 0 61 := by
 obtain ⟨⟨A,S,Sf,Af,K,h1,h2⟩,h3,h4,h5,h6,h7⟩ := h
 refine ⟨⟨A,S,Sf,Af,K,h1,by omega,?_⟩,hk,by omega,by omega,by omega,by omega⟩
 unfold mu
 split <;> omega
end Sx
end
noncomputable section
open Go Go.Proofs Sx
namespace Sx
def spArr (x : D) : SpecR := .scalar [x.Is St3] (.lb true)
theorem pick_at {L : List Msg} {j : Nat} (h : j < L.length) : pickUnderWay L (max 0 (j : Int)) = some L[j] := by
 unfold pickUnderWay
 rw [Int.max_eq_right (by omega),Int.tmod_eq_emod_of_nonneg (by omega),Int.emod_eq_of_lt (by omega) (by omega),Int.toNat_natCast]
 exact List.getElem?_eq_getElem h
theorem vols4 {l : List Vol} (h : Im4 l) : ∀ v,v ∈ l → v.l.length ≤ 1048576 := fun v hv=>by
 unfold Im4 volSizes at h
 have : (v.l.length : Int) ∈ l.map fun v=>(v.l.length : Int) := List.mem_map.2 ⟨v,hv,rfl⟩
 rw [h] at this
 simp at this
 omega
end Sx
namespace Sv
theorem ctArOk : Ctrs.Ok Try.prog ctAr := by
 intro x hx
 simp only [ctAr,List.mem_cons,List.not_mem_nil,or_false] at hx
 rcases hx with rfl | rfl | rfl
 ·exact ctrOf_ok lawLag
 ·exact ctrOf_ok lawImS
 ·exact ctrOf_ok lawAwk
theorem sm {s : Sx.Sys} (o k : D) {nv m im tf tn : D} {sv : SV} {bl : Mem} (h : SW nv m im tf tn s) (h' : Stg 65 s.staged sv bl) : SysMem s (sysM o k nv m im tf tn s.r s.far s.numbers sv bl) := smem h h'
theorem smF {s : Sx.Sys} (o k : D) {nv m im tf tn : D} {sv : SV} {bl : Mem} (h : SW nv m im tf tn s) (h' : Stg 65 s.staged sv bl) : SysMemF tf s (sysM o k nv m im tf tn s.r s.far s.numbers sv bl) := ⟨_,_,_,_,_,_,_,_,h,h',rfl⟩
abbrev Gl (w : World) (H : HV) (c : Conf) : Prop := Runs Try.prog ⟨w,H⟩ c (RetS w H (.lb true))
section
variable {C : Ctx} {R : Value → World → Prop}
theorem rsy {top : SFrm} {rest : List SFrm} {mem m' : Mem} (h : Runs Try.prog C ⟨top,rest,m'⟩ R) (hto : (moveM mem (mvOf 100000 [21,22,23] mem)).map (pickK (m'.map Prod.fst)) = some m' := by kernel_rfl) (hn : decide (m'.map Prod.fst).Nodup = true := by kernel_rfl) (hp : (SV.fixedL top.tmps && rest.all fun f=>SV.fixedL f.tmps) = true := by kernel_rfl) : Runs Try.prog C ⟨top,rest,mem⟩ R := runs_to (MemTo.to _ _ hto (of_decide_eq_true hn)) hp h
theorem toV {c : Conf} (top : SFrm) {m' : Mem} {d : D} (h : Runs Try.prog C ⟨{ top with tmps := top.tmps.set 64 (.vec 1) },[],m'⟩ R) (hb : m'.get 1 = some (.arr 72 d) := by kernel_rfl) (hc : c = ⟨{ top with tmps := top.tmps.set 64 (.vec 1) },[],c.mem⟩ := by kernel_rfl) (hto : (moveM c.mem (mvOf 100000 [21,22,23] c.mem)).map (pickK (m'.map Prod.fst)) = some m' := by kernel_rfl) (hn : decide (m'.map Prod.fst).Nodup = true := by kernel_rfl) (hT : top.tmps.all SV.pinned = true := by kernel_rfl) (ha : c.mem.get 1 = some (.arr 72 d) := by kernel_rfl) : Runs Try.prog C c R := by
 rw [hc]; exact runs_toV 64 1 1 (MemTo.to _ _ hto (of_decide_eq_true hn)) hT ha hb h
theorem nilsIn {c c' : Conf} (h : Runs Try.prog C c' R) (hn : decide (c'.mem.map Prod.fst).Nodup = true := by kernel_rfl) (hp : (SV.fixedL c'.top.tmps && c'.rest.all fun f=>SV.fixedL f.tmps) = true := by kernel_rfl)
  (hc : (((vecIn 3 72 8 (some 100000) 22 c).bind (vecIn 4 72 8 (some 100000) 23)).bind fun c2=>((moveM c2.mem (mvOf 100000 [21,22,23] c2.mem)).map (pickK (c'.mem.map Prod.fst))).map fun m=>⟨c2.top,c2.rest,m⟩) = some c' := by kernel_rfl) : Runs Try.prog C c R := by
 simp only [Option.bind_eq_some_iff,Option.map_eq_some_iff] at hc
 obtain ⟨c2,⟨c1,h1,h2⟩,m',⟨m1,h4,h5⟩,h6⟩ := hc
 exact vecIn_sound h1 (vecIn_sound h2 (runs_to (m' := m') (MemTo.to _ _ (by rw [h4,← h5]; rfl) (of_decide_eq_true hn)) (by rw [← h6] at hp; exact hp) (by rw [← h6] at h; exact h)))
end
theorem mlaw {s s' : Sx.Sys} {f : FuncId} {n : Nat} {args : List (Nat × SV)} (hm : MethOk f n args s s') (g : SFrm) {w0 : World} {H : HV} {R : Value → World → Prop} {mem m' : Mem} (hs : SysMem s m') (k : ∀ m'',SysMem s' m'' → Runs Try.prog ⟨w0,H⟩ (backK g m'') R)
  (hto : (moveM mem (mvOf 100000 [21,22,23] mem)).map (pickK (m'.map Prod.fst)) = some m' := by kernel_rfl) (hn : decide (m'.map Prod.fst).Nodup = true := by kernel_rfl) (hfx : (SV.fixedL (mkJ 1 args 0 n) && [g].all fun f=>SV.fixedL f.tmps) = true := by kernel_rfl) (hgp : (g.tmps.all SV.pinned && ([] : List SFrm).all fun f=>f.tmps.all SV.pinned) = true := by kernel_rfl) :
  Runs Try.prog ⟨w0,H⟩ ⟨SFrm.mk f none none [Item.code (cA f [])] (mkJ 1 args 0 n),[g],mem⟩ R := meth_law hm m' _ hs k hto (of_decide_eq_true hn) hfx hgp
theorem methV {c : Conf} (g : SFrm) {f : FuncId} {n : Nat} {args : List (Nat × SV)} {tf : D} {s s' : Sx.Sys} {w0 : World} {H : HV} {R : Value → World → Prop} {m' : Mem}
  (h1 : ∀ (w0 : World) (H : HV) (fp : Nat → Nat) (mm : Mem),SysMemF tf s mm → Runs Try.prog (@Ctx.mk w0 H (pinX fp)) (sysE f n args mm) (RetP w0 H fp fun v mm=>v = .lb true ∧ SysMemF tf s' mm)) (hs : SysMemF tf s m')
  (h2 : ∀ m,SysMemF tf s' m → Runs Try.prog ⟨w0,H⟩ ⟨{ g with tmps := putS (g.tmps.set 64 (.vec 1)) g.await (.lb true),await := none },[],m⟩ R)
  (hc : c = ⟨SFrm.mk f none none [Item.code (cA f [])] (mkJ 1 args 0 n),[{ g with tmps := g.tmps.set 64 (.vec 1) }],c.mem⟩ := by kernel_rfl) (hto : (moveM c.mem (mvOf 100000 [21,22,23] c.mem)).map (pickK (m'.map Prod.fst)) = some m' := by kernel_rfl) (hn : decide (m'.map Prod.fst).Nodup = true := by kernel_rfl)
  (hT : g.tmps.all SV.pinned = true := by kernel_rfl) (hfx : SV.fixedL (mkJ 1 args 0 n) = true := by kernel_rfl) (ha : c.mem.get 1 = some (.arr 72 tf) := by kernel_rfl) : Runs Try.prog ⟨w0,H⟩ c R := by
 rw [hc]
 exact runs_methV (e := 72) (d := tf) 64 1 1 hT hfx (MemTo.to _ _ hto (of_decide_eq_true hn)) ha (fun H f _=>h1 w0 H f m' hs) (fun v m h=>h.2.at) (fun v m ⟨hv,hm⟩=>by subst hv; exact h2 m hm)
theorem ar_e {s : Sx.Sys} {i q : Nat} {mm : Mem} (w : World) (H : HV) (h : Ar s i q) (hi : i ≤ 70) (hk : s.r.kept = []) (hm : SysMem s mm) : Gl w H (arE mm) := by
 have hinv := (h.rn.run (by omega) h.2.2.2.2.1 h.2.2.2.2.2).inv
 obtain ⟨e1,e2,e3,e4⟩ := h.end' hk
 have hx : ∀ mm,SysMem s mm → Gl w H (backK arEF mm) := fun mm hm=>by
  obtain ⟨o,k,nv,m,im,tf,tn,sv,bl,hsw,hst,he⟩ := hm
  subst he; have ht := hst
  apply execRX_sound ctArOk [] [] 400
  cases hst
  case' a=>rw [arA_f]
  case' b=>rw [arB_f]
  all_goals
   exact leaf_ret (f := Try.f8) (l := [.lb true]) (by kernel_rfl) (by kernel_rfl) ret_lbt
 obtain ⟨o,k,nv,m,im,tf,tn,sv,bl,hsw,hst,he⟩ := hm
 subst he; have ht := hst
 have l1 := im_len hsw.im.1 hsw.im.2 (by rw [e2]; exact e4)
 have l2 := im_len hsw.nv.1 hsw.nv.2 e4
 have hkl : (k.like s.r.kept).len = 0 := by rw [like_leng,hk]; rfl
 have hv := vols4 e4
 have d1 : decide (s.far.applied = s.r.near.applied) = true := decide_eq_true e1
 have d2 : decide (im.to Vol = nv.to Vol) = true := decide_eq_true (by rw [hsw.im.2,hsw.nv.2,e2])
 apply execRX_sound ctArOk [27] [] 400
 refine cut_sound (bs := [true,true,true,true,true]) ?_
 cases hst
 case' a=>rw [arA_e]
 case' b=>rw [arB_e]
 all_goals
  simp only [rl_backR,hkl,d1,e3,d2]
  intro hs0
  repeat first
   | refine ⟨by decide,?_⟩
   | refine ⟨decide_eq_true rfl,?_⟩
   | refine ⟨⟨hsw.im.1,hsw.nv.1,l1,l2,(by rw [hsw.im.2,e2]; exact hv),(by rw [hsw.nv.2]; exact hv)⟩,?_⟩
   | refine ⟨hinv.rl o k,?_⟩
   | fail
  exact mlaw (right_meth hinv) (arEF) (sm o k hsw ht) hx
theorem ar_u (w : World) (H : HV) {i : Nat} (hi : i < 70) {L : List Msg} (hL : L.length ≤ 550000) : ∀ (p j : Nat) {s : Sx.Sys} {mm : Mem},j + p = L.length → NearRun L (L.drop j) s → SysMem s mm → (∀ mm,SysMem (nearAll (L.drop j) s) mm → Gl w H (arR ((i + 1 : Nat) : Int) mm)) → Gl w H (arU (L.length : Int) i j mm)
 | 0,j,s,mm,hj,hr,hm,ih=>by
  rw [List.drop_of_length_le (by omega)] at ih
  obtain ⟨o,k,nv,m,im,tf,tn,sv,bl,hsw,hst,he⟩ := hm
  subst he; have ht := hst
  refine unroll_sound rfl ?_
  apply execRX_sound ctArOk [24,28] [] 400
  cases hst
  case' a=>rw [arA_u,wrapj (by omega)]
  case' b=>rw [arB_u,wrapj (by omega)]
  all_goals
   refine ⟨fun h=>absurd (of_decide_eq_true h) (by omega),fun _=>?_⟩
   exact rsy (ih _ (sm o k hsw ht))
 | p + 1,j,s,mm,hj,hr,hm,ih=>by
  have hlt : j < L.length := by omega
  rw [List.drop_eq_getElem_cons hlt] at hr ih
  obtain ⟨⟨hr,hn⟩,hr'⟩ := hr
  have e : (stepS s (3,j,0)).1 = learnS s L[j] := by
   show (match pickUnderWay s.toNear (max 0 (j : Int)) with | some m=>(learnS s m,true) | none=>(s,true)).1 = _
   rw [hn,pick_at hlt]
  have hnum := hr.2.1
  have hm' := step_meth hr.inv 3 j 0 (by omega) (hr.app _ _)
  rw [e] at hm'
  have hx : ∀ mm,SysMem (learnS s L[j]) mm → Gl w H (backK (arUF L.length i j) mm) := fun mm hm=>by
   have ih' : ∀ mm,SysMem (learnS s L[j]) mm → Gl w H (arU (L.length : Int) i ((j + 1 : Nat) : Int) mm) := fun mm hm=>ar_u w H hi hL p (j + 1) (by omega) hr' hm ih
   generalize learnS s L[j] = s at hm ih'
   obtain ⟨o,k,nv,m,im,tf,tn,sv,bl,hsw,hst,he⟩ := hm
   subst he; have ht := hst
   apply execRX_sound ctArOk [24,28] [] 400
   cases hst
   case' a=>rw [arA_v,wrapj (by omega)]
   case' b=>rw [arB_v,wrapj (by omega)]
   all_goals
    exact rsy (ih' _ (sm o k hsw ht))
  obtain ⟨o,k,nv,m,im,tf,tn,sv,bl,hsw,hst,he⟩ := hm
  subst he; have ht := hst
  refine unroll_sound rfl ?_
  apply execRX_sound ctArOk [24,28] [] 400
  cases hst
  case' a=>rw [arA_u]
  case' b=>rw [arB_u]
  all_goals
   refine ⟨fun _=>?_,fun h=>absurd (of_decide_eq_false h) (by omega)⟩
   exact mlaw hm' (arUF L.length i j) (sm o k hsw ht) hx
theorem ar_t (w : World) (H : HV) {i : Nat} (hi : i < 70) {tf : D} (htf : tf.Is Msg) (hsz : tf.sz = 8) (hl : tf.len ≤ 40) : ∀ (p j : Nat) {s : Sx.Sys} {mm : Mem},j + p = tf.len → FarRun ((tf.to Msg).drop j) s → SysMemF tf s mm → (∀ mm,SysMem (farAll ((tf.to Msg).drop j) s) mm → Gl w H (arU ((farAll ((tf.to Msg).drop j) s).toNear.length : Int) i 0 mm)) → Gl w H (arT tf i j mm)
 | 0,j,s,mm,hj,hr,hm,ih=>by
  have hlen : tf.len = (tf.to Msg).length := D.Is.length (α := Msg) _
  rw [List.drop_of_length_le (by omega)] at ih
  obtain ⟨o,k,nv,m,im,tn,sv,bl,hsw,hst,he⟩ := hm
  subst he; have ht := hst
  have tnl : s.toNear.length = tn.len := by rw [D.Is.length (α := Msg),hsw.tn.2.2]
  have ih : ∀ mm,SysMem s mm → Gl w H (arU (tn.len : Int) i 0 mm) := fun mm hm=>by rw [← tnl]; exact ih mm hm
  refine unroll_sound rfl ?_
  apply execRX_sound ctArOk [24,28] [] 400
  cases hst
  case' a=>rw [arA_t]
  case' b=>rw [arB_t]
  all_goals
   refine ⟨fun h=>absurd (of_decide_eq_true h) (by omega),fun _=>?_⟩
   exact rsy (ih _ (sm o k hsw ht))
 | p + 1,j,s,mm,hj,hr,hm,ih=>by
  have hlen : tf.len = (tf.to Msg).length := D.Is.length (α := Msg) _
  have hlt : j < (tf.to Msg).length := by omega
  rw [List.drop_eq_getElem_cons hlt] at hr ih
  obtain ⟨hr,hr'⟩ := hr
  rw [← msg_at htf hlt] at hr' ih
  have hx : ∀ mm,SysMemF tf (atFarS s (MsgD.msg ⟨tf.getInt j 0,tf.getInt j 1,tf.getInt j 2,tf.getInt j 3,tf.getInt j 4,tf.getInt j 5,tf.cell j 6,tf.cell j 7⟩)).1 mm → Gl w H (arTB tf i j mm) := fun mm hm=>by
   have ih' : ∀ mm,SysMemF tf (atFarS s (MsgD.msg ⟨tf.getInt j 0,tf.getInt j 1,tf.getInt j 2,tf.getInt j 3,tf.getInt j 4,tf.getInt j 5,tf.cell j 6,tf.cell j 7⟩)).1 mm → Gl w H (arT tf i ((j + 1 : Nat) : Int) mm) := fun mm hm=>ar_t w H hi htf hsz hl p (j + 1) (by omega) hr' hm ih
   generalize (atFarS s (MsgD.msg ⟨tf.getInt j 0,tf.getInt j 1,tf.getInt j 2,tf.getInt j 3,tf.getInt j 4,tf.getInt j 5,tf.cell j 6,tf.cell j 7⟩)).1 = s at hm ih'
   obtain ⟨o,k,nv,m,im,tn,sv,bl,hsw,hst,he⟩ := hm
   subst he; have ht := hst
   apply execRX_sound ctArOk [24,28] [] 400
   cases hst
   case' a=>rw [arA_k3,wrapj (by omega)]
   case' b=>rw [arB_k3,wrapj (by omega)]
   all_goals
    exact toV (arTF tf i ((j + 1 : Nat) : Int)) (d := tf) (ih' _ (smF o k hsw ht))
  obtain ⟨o,k,nv,m,im,tn,sv,bl,hsw,hst,he⟩ := hm
  subst he; have ht := hst
  refine unroll_sound rfl ?_
  apply execRX_sound ctArOk [24,28] [] 400
  cases hst
  case' a=>rw [arA_t]
  case' b=>rw [arB_t]
  all_goals
   refine ⟨fun _=>⟨⟨by omega,by omega,hsz⟩,⟨(msg_cell htf hlt).1,hsz⟩,?_⟩,fun h=>absurd (of_decide_eq_false h) (by omega)⟩
   exact methV (arTG tf i j) (far_methF hr.inv _ _ _ _ _ _ _ _ tf) (smF o k hsw ht) hx
theorem nil_msgs : (D.slc none 8 []).Is Msg ∧ (D.slc none 8 []).sz = 8 ∧ (D.slc none 8 []).to Msg = [] := ⟨⟨_,_,_,rfl,.inr rfl,fun _ h=>nomatch h⟩,rfl,rfl⟩
theorem ar_r (w : World) (H : HV) : ∀ (q i : Nat) {s : Sx.Sys} {mm : Mem},i + q = 70 → Ar s i q → SysMem s mm → Gl w H (arR i mm)
 | 0,i,s,mm,hi,h,hm=>by
  obtain ⟨o,k,nv,m,im,tf,tn,sv,bl,hsw,hst,he⟩ := hm
  subst he; have ht := hst
  refine unroll_sound rfl ?_
  apply execRX_sound ctArOk [24,27] [(8,90)] 400
  cases hst
  case' a=>rw [arA_r]
  case' b=>rw [arB_r]
  all_goals
   exact ⟨fun h=>absurd (of_decide_eq_true h) (by omega),fun _=>rsy (ar_e w H h (by omega) h.done (sm o k hsw ht))⟩
 | q + 1,i,s,mm,hi,h,hm=>by
  by_cases hk : s.r.kept = []
  ·obtain ⟨o,k,nv,m,im,tf,tn,sv,bl,hsw,hst,he⟩ := hm
   subst he; have ht := hst
   have hkl : (k.like s.r.kept).len = 0 := by rw [like_leng,hk]; rfl
   refine unroll_sound rfl ?_
   apply execRX_sound ctArOk [24,27] [(8,90)] 400
   cases hst
   case' a=>rw [arA_r]
   case' b=>rw [arB_r]
   all_goals
    refine ⟨fun _=>⟨fun _=>rsy (ar_e w H h (by omega) hk (sm o k hsw ht)),fun h=>absurd (of_decide_eq_false h) (by rw [hkl]; simp)⟩,fun h=>absurd (of_decide_eq_false h) (by omega)⟩
  have ih : ∀ mm,SysMem (roundS s) mm → Gl w H (arR ((i + 1 : Nat) : Int) mm) := fun mm hm=>ar_r w H q (i + 1) (by omega) (h.next hk (by omega)) hm
  obtain ⟨r1,r2,r3,r4,r5,r6,_⟩ := round_run h.rn (by omega)
  have g4 : ∀ mm,SysMem (farR s) mm → Gl w H (arU ((farR s).toNear.length : Int) i 0 mm) := fun mm hm=>ar_u w H (by omega) r6 _ 0 (Nat.zero_add _) r5 hm ih
  have g3 : ∀ mm,SysMem (resentS s) mm → Gl w H (backK (arH i) mm) := fun mm hm=>by
   have g5 : ∀ {tf : D},tf.to Msg = (resentS s).toFar → ∀ mm,SysMem (farAll ((tf.to Msg).drop 0) (resentS s)) mm → Gl w H (arU ((farAll ((tf.to Msg).drop 0) (resentS s)).toNear.length : Int) i 0 mm) := fun {tf} e mm hm=>by rw [e] at hm ⊢; exact g4 mm hm
   generalize resentS s = s at hm g5 r3 r4
   obtain ⟨o,k,nv,m,im,tf,tn,sv,bl,hsw,hst,he⟩ := hm
   subst he; have ht := hst
   have tfl : tf.len = s.toFar.length := by rw [D.Is.length (α := Msg),hsw.tf.2.2]
   have hlp : ∀ mm,SysMemF tf s mm → Gl w H (arT tf i 0 mm) := fun mm hm=>ar_t w H (by omega) hsw.tf.1 hsw.tf.2.1 (by omega) _ 0 (Nat.zero_add _) (by rw [hsw.tf.2.2]; exact r3) hm (g5 hsw.tf.2.2)
   apply execRX_sound ctArOk [24,28] [] 400
   cases hst
   case' a=>rw [arA_k2]
   case' b=>rw [arB_k2]
   all_goals
    exact toV (arTF tf i 0) (d := tf) (hlp _ (smF o k hsw ht))
  have hm4 : MethOk 24 105 [(0,.ptr 100000 0),(1,.agg [.int .i64 4,.int .i64 0,.int .u8 0])] (sendS (clearS s)).1 (resentS s) := step_meth r2.inv 4 0 0 (by have := r2.2.1; omega) (r2.app _ _)
  have g2 : ∀ mm,SysMem (sendS (clearS s)).1 mm → Gl w H (backK (arG i) mm) := fun mm hm=>by
   generalize (sendS (clearS s)).1 = s at hm hm4
   obtain ⟨o,k,nv,m,im,tf,tn,sv,bl,hsw,hst,he⟩ := hm
   subst he; have ht := hst
   apply execRX_sound ctArOk [24,28] [] 400
   cases hst
   case' a=>rw [arA_k1]
   case' b=>rw [arB_k1]
   all_goals
    exact mlaw hm4 (arH i) (sm o k hsw ht) g3
  have hm1 : MethOk 24 105 [(0,.ptr 100000 0),(1,.agg [.int .i64 1,.int .i64 0,.int .u8 0])] (clearS s) (sendS (clearS s)).1 := step_meth r1.inv 1 0 0 (by have := r1.2.1; omega) (r1.app _ _)
  obtain ⟨o,k,nv,m,im,tf,tn,sv,bl,hsw,hst,he⟩ := hm
  subst he; have ht := hst
  have hkl : (k.like s.r.kept).len ≠ 0 := by rw [like_leng]; exact fun h=>hk (List.eq_nil_of_length_eq_zero h)
  have hsc : SW nv m im (.slc none 8 []) (.slc none 8 []) (clearS s) := ⟨hsw.nv,hsw.m,hsw.im,nil_msgs,nil_msgs⟩
  refine unroll_sound rfl ?_
  apply execRX_sound ctArOk [24,27] [(8,90)] 400
  cases hst
  case' a=>rw [arA_r]
  case' b=>rw [arB_r]
  all_goals
   refine ⟨fun _=>⟨fun h=>absurd (of_decide_eq_true h) (by omega),fun _=>?_⟩,fun h=>absurd (of_decide_eq_false h) (by omega)⟩
   exact nilsIn (c' := ⟨SFrm.mk 24 none none [Item.code (cA 24 [])] (mkJ 1 [(0,.ptr 100000 0),(1,.agg [.int .i64 1,.int .i64 0,.int .u8 0])] 0 105),[arG i],_⟩) (runs_meth (by kernel_rfl) (fun H f _=>hm1 w H f _ (sm (s := clearS s) o k hsc ht)) (fun v m ⟨hv,hm⟩=>by subst hv; exact g2 m hm))
theorem ar_loop {l : D} (hl : l.Is St3) (hlen : l.len ≤ 30) (w : World) (H : HV) : ∀ (q j : Nat) {s : Sx.Sys} {mm : Mem},j + q = l.len → Run s j → SysK s → SysMem s mm → Gl w H (arL l j mm)
 | 0,j,s,mm,hj,hr,hk,hm=>by
  have har := run_ar hr hk (by omega)
  have har : Ar s 0 70 := by
   obtain ⟨⟨A,S,Sf,Af,K,a1,a2,a3⟩,a4⟩ := har
   exact ⟨⟨A,S,Sf,Af,K,a1,a2,by omega⟩,a4⟩
  obtain ⟨o,k,nv,m,im,tf,tn,sv,bl,hsw,hst,he⟩ := hm
  subst he; have ht := hst
  refine unroll_sound rfl ?_
  apply execRE_sound ctArOk [24] 400
  cases hst
  case' a=>rw [arA_go]
  case' b=>rw [arB_go]
  all_goals
   exact ⟨fun h=>absurd (of_decide_eq_true h) (by omega),fun _=>rsy (ar_r w H 70 0 rfl har (sm o k hsw ht))⟩
 | q + 1,j,s,mm,hj,hr,hk,hm=>by
  have hlt : j < (l.to St3).length := by rw [← D.Is.length (α := St3)]; omega
  have hcell := st_cell hl hlt
  have hsz : l.sz = 3 := hl.size hlt
  have hnum := hr.2.1
  have hx : ∀ mm,SysMem (stepS s (l.getInt j 0,l.getInt j 1,l.getInt j 2)).1 mm → Gl w H (backK (arF l j) mm) := fun mm hm=>by
   have hr' := hr.step (by omega) (l.getInt j 0,l.getInt j 1,l.getInt j 2)
   have hk' := step_kept hr hk (l.getInt j 0,l.getInt j 1,l.getInt j 2)
   generalize (stepS s (l.getInt j 0,l.getInt j 1,l.getInt j 2)).1 = s at hr' hk' hm
   have ih : ∀ mm,SysMem s mm → Gl w H (arL l ((j + 1 : Nat) : Int) mm) := fun mm hm=>ar_loop hl hlen w H q (j + 1) (by omega) hr' hk' hm
   obtain ⟨o,k,nv,m,im,tf,tn,sv,bl,hsw,hst,he⟩ := hm
   subst he; have ht := hst
   apply execRE_sound ctArOk [] 400
   cases hst
   case' a=>rw [arA_k,wrapj (by omega)]
   case' b=>rw [arB_k,wrapj (by omega)]
   all_goals
    exact rsy (ih _ (sm o k hsw ht))
  obtain ⟨o,k,nv,m,im,tf,tn,sv,bl,hsw,hst,he⟩ := hm
  subst he; have ht := hst
  refine unroll_sound rfl ?_
  apply execRE_sound ctArOk [24] 400
  cases hst
  case' a=>rw [arA_go]
  case' b=>rw [arB_go]
  all_goals
   refine ⟨fun _=>⟨⟨by omega,by omega,hsz⟩,hcell,?_⟩,fun h=>absurd (of_decide_eq_false h) (by omega)⟩
   exact mlaw (step_meth hr.inv _ _ _ (by omega) (hr.app _ _)) (arF l j) (sm o k hsw ht) hx
end Sv
end
noncomputable section
open Go Go.Proofs Sx
namespace Sv
theorem lawArr : Law Try.prog 8 (rdD.one.sp spArr) := by
 refine law_in _ (by kernel_rfl) fun H w l hok hp=>?_
 have hl := hp _ (List.mem_singleton.2 rfl)
 apply exec_sound ctLSOk 400
 rw [show rdD.one.canon l = [.dat l] from rfl,ar_in]
 simp only [four_to,err4,ok4,img4]
 refine fun hs0 hs1 hs2=>⟨four_is _,fun hs3=>⟨fun h=>absurd h (by decide),fun _=>⟨fun _=>⟨fun _=>ret_lbt,fun h=>absurd h (by decide)⟩,fun hlen=>?_⟩⟩⟩
 have hlen : l.len ≤ 30 := by have := of_decide_eq_false hlen; omega
 refine begin_to 65 72 5 8 21 22 23 (arL l 0 [(2,.arr 72 (.slc none 8 [])),(1,.arr 72 (.slc none 8 [])),(0,.arr 65 (.slc none 5 [])),
  (100000,.cells 62 (rlL (hs0 0 0) (hs0 0 1) beginS.r ++ [.dat ((hs3 0 0).like im0),.mapp 100001,.int .i64 1,.int .i64 2,.int .i64 0,.int .i64 0,.dat ((hs3 0 0).like im0),.view 0 5 0 0,.vec 1,.vec 2,.int .i64 0])),(100001,.mapD .i64 false [.slc] (.slc none 0 [[.int .i64 0,(hs3 0 0).like im0]]))]) (by kernel_rfl) ?_
 exact rsy (ar_loop hl hlen w H l.len 0 (by omega) run_begin (fun _ h=>nomatch h) (begin_mem (hs0 0 0) (hs0 0 1) ((hs3 0 0).like im0) (D.like_is _ _) (D.like_to _ _)))
end Sv
end
