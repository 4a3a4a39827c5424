/- Layer 41: the example's relays, as tables. -/
import Derived.Test.YtllmgnhjljmihaaVL5toVT166
import Derived.Test.YtllmgnhjljmihaaVL166toN33
import Derived.KernelRfl
set_option linter.all false
section
open Go
namespace Sx
instance : Plain Cy where
  cells d i c := [.int .i64 c.base, .int .i64 c.number, .int .i64 c.time, (d.cell i 3).plain c.pos, (d.cell i 4).plain c.wr]
  right d i r h ho := by
    obtain ⟨a, b, t, p, w, rfl, hp, hw⟩ := ho
    obtain ⟨p1, p2, p3, rfl⟩ := hp.slc
    obtain ⟨w1, w2, w3, rfl⟩ := hw.slc
    have e1 : d.cell i 3 = .slc p1 p2 p3 := by simp [D.cell, D.cellAt, h]
    have e2 : d.cell i 4 = .slc w1 w2 w3 := by simp [D.cell, D.cellAt, h]
    simp only [Codec.dec, e1, e2, plain_self hp, plain_self hw]
noncomputable instance : Plain Msg where
  cells d i m := [.int .i64 m.kind, .int .i64 m.frm, .int .i64 m.to, .int .i64 m.number, .int .i64 m.value, .int .i64 m.epoch, (d.cell i 6).plain m.values, (d.cell i 7).plain m.body]
  right d i r h ho := by
    obtain ⟨a, b, c, d', e, f, p, w, rfl, hp, hw⟩ := ho
    obtain ⟨p1, p2, p3, rfl⟩ := hp.slc
    obtain ⟨w1, w2, w3, rfl⟩ := hw.slc
    have e1 : d.cell i 6 = .slc p1 p2 p3 := by simp [D.cell, D.cellAt, h]
    have e2 : d.cell i 7 = .slc w1 w2 w3 := by simp [D.cell, D.cellAt, h]
    simp only [Codec.dec, e1, e2, plain_self hp, plain_self hw]
noncomputable def pC (d : D) (l : List Cy) : D := d.plain l
noncomputable def pMs (d : D) (l : List Msg) : D := d.plain l
def cyRows : List (List D) → Bool
  | [] => true
  | r :: rs => match r with
    | [.int .i64 _, .int .i64 _, .int .i64 _, p, w] => p.allInt && (w.allWt && cyRows rs)
    | _ => false
def D.allCy (d : D) : Bool :=
  match d with
  | .slc _ s rows => (match rows with | [] => true | _ :: _ => s == 5) && cyRows rows
  | _ => false
theorem cyRows_ok : ∀ (rows : List (List D)), cyRows rows = true → ∀ r, r ∈ rows → Codec.ok Cy r
  | [], _, r, h => by cases h
  | x :: rs, h, r, hr => by
    unfold cyRows at h
    split at h
    · simp only [Bool.and_eq_true] at h
      rcases List.mem_cons.1 hr with rfl | hr
      · exact ⟨_, _, _, _, _, rfl, allInt_is h.1, allWt_is h.2.1⟩
      · exact cyRows_ok rs h.2.2 r hr
    · cases h
theorem allCy_is {d : D} (h : d.allCy = true) : d.Is Cy := by
  unfold D.allCy at h
  split at h
  · rename_i a s rows
    simp only [Bool.and_eq_true] at h
    refine ⟨_, _, _, rfl, ?_, cyRows_ok _ h.2⟩
    cases rows with
    | nil => exact .inl rfl
    | cons x r => right; exact eq_of_beq h.1
  · cases h
def cyOkB (c : Cy) : Bool := decide (c.pos.length ≤ 1048576) && (decide (c.wr.length ≤ 1048576) && c.wr.all fun w => decide (w.data.length ≤ 1048576))
theorem cyOkB_is {c : Cy} (h : cyOkB c = true) : CyOk c := by
  simp only [cyOkB, Bool.and_eq_true, decide_eq_true_eq, List.all_eq_true] at h
  exact h
def rlB (x : RlD) : Bool := x.src.d.allInt && (x.k.allCy && (decide (x.src.d.len ≤ 1048576) && (decide (x.k.len ≤ 1048576) && (x.k.to Cy).all cyOkB)))
theorem rlB_is {x : RlD} (h : rlB x = true) : x.Ok := by
  simp only [rlB, Bool.and_eq_true, decide_eq_true_eq, List.all_eq_true] at h
  exact ⟨allInt_is h.1, allCy_is h.2.1, h.2.2.1, h.2.2.2.1, fun c hc => cyOkB_is (h.2.2.2.2 c hc)⟩
def cyB (x : CyD) : Bool := x.p.allInt && (x.w.allWt && (decide (x.p.len ≤ 1048576) && (decide (x.w.len ≤ 1048576) && (x.w.to Wt).all fun w => decide (w.data.length ≤ 1048576))))
theorem cyB_is {x : CyD} (h : cyB x = true) : x.Ok := by
  simp only [cyB, Bool.and_eq_true, decide_eq_true_eq, List.all_eq_true] at h
  exact ⟨allInt_is h.1, allWt_is h.2.1, h.2.2.1, h.2.2.2.1, h.2.2.2.2⟩
noncomputable def rlP (o k : D) (r : Rl) : List SV := [.int .i64 r.near.epoch, .int .i64 r.near.site, .int .i64 r.near.stored, .int .i64 r.near.applied, .int .i64 r.far.epoch, .int .i64 r.far.site, .int .i64 r.far.stored, .int .i64 r.far.applied,
  .int .i64 r.src.epoch, .int .i64 r.src.site, .dat (pI o r.src.offered), .int .i64 r.src.stored, .int .i64 r.src.applied, .dat (pC k r.kept)]
theorem rlP_like (o k : D) (r : Rl) : rlP (o.like r.src.offered) (k.like r.kept) r = rlL o k r := by simp only [rlP, rlL, pI, pC, plain_like]
noncomputable def cyP (p w : D) (c : Cy) : List SV := [.int .i64 c.base, .int .i64 c.number, .int .i64 c.time, .dat (pI p c.pos), .dat (pW w c.wr)]
theorem cyP_like (p w : D) (c : Cy) : cyP (p.like c.pos) (w.like c.wr) c = cyL p w c := by simp only [cyP, cyL, pI, pW, plain_like]
noncomputable def dsR (ds : Nat → D) (r : Rl) (l : List Msg) : Nat → D := fun i => match i with | 0 => (ds 0).like r.src.offered | 1 => (ds 1).like r.kept | _ => (ds 2).like l
/-! The example. -/
def xw (n : Int) (s : Int) : Wt := ⟨0, s, [⟨n, 0, 0, 0, 0, 0, 0, 0⟩]⟩
def xc1 : Cy := ⟨4, 5, 0, [], [xw 5 1]⟩
def xc2 : Cy := ⟨5, 6, 0, [], [xw 6 2]⟩
def xR0 : Rl := ⟨⟨1, 1, 4, 4⟩, ⟨1, 2, 4, 4⟩, ⟨1, 2, [], 4, 4⟩, []⟩
def xR1 : Rl := ⟨⟨1, 1, 5, 5⟩, ⟨1, 2, 4, 4⟩, ⟨1, 2, [5], 4, 4⟩, [xc1]⟩
def xR2 : Rl := ⟨⟨1, 1, 6, 6⟩, ⟨1, 2, 4, 4⟩, ⟨1, 2, [5, 6], 4, 4⟩, [xc1, xc2]⟩
def xR3 : Rl := ⟨⟨1, 1, 6, 6⟩, ⟨1, 2, 5, 4⟩, ⟨1, 2, [5, 6], 5, 4⟩, [xc1, xc2]⟩
def xR4 : Rl := ⟨⟨1, 1, 6, 6⟩, ⟨1, 2, 5, 5⟩, ⟨1, 2, [6], 5, 5⟩, [xc2]⟩
noncomputable def spNewX (x : Int × Int × Int × Int) : SpecR := iff true (tabD (newRl x.1 x.2.1 x.2.2.1 x.2.2.2) [(xR0, 0)] fun r => .data [] fun ds => .tup [.agg (rlP (ds 0) (ds 1) r.1), .int .i64 r.2])
noncomputable def spAplX (x : RlD × CyD) : SpecR := iff (rlB x.1 && cyB x.2) (tabD (applyRl x.1.rl x.2.cy) [(xR1, [⟨8, 0, 2, 5, 0, 1, [], []⟩], 0), (xR2, [⟨8, 0, 2, 6, 0, 1, [], []⟩], 0)] fun r => .data [] fun ds => .tup [.agg (rlP (ds 0) (ds 1) r.1), .dat (pMs (ds 2) r.2.1), .int .i64 r.2.2])
noncomputable def spNxtX (x : RlD) : SpecR := iff (rlB x) (tabD (nextRl x.rl) [(xc1, true), (xc2, true)] fun r => .data [] fun ds => .tup [.agg (cyP (ds 0) (ds 1) r.1), .bool r.2])
noncomputable def spLrnX (x : RlD × MsgD) : SpecR := iff (rlB x.1) (tabD (learnRl x.1.rl x.2.msg) [(xR3, [⟨10, 0, 2, 5, 0, 1, [], []⟩]), (xR4, [])] fun r => .data [] fun ds => .tup [.agg (rlP (ds 0) (ds 1) r.1), .dat (pMs (ds 2) r.2)])
noncomputable def spRstX (x : RlD × Int × Int) : SpecR := iff (rlB x.1) (tabD (restartRl x.1.rl x.2.1 x.2.2) [(xR4, 0), (zRl, 15)] fun r => .data [] fun ds => .tup [.agg (rlP (ds 0) (ds 1) r.1), .int .i64 r.2])
def spLagX (x : RlD) : SpecR := iff (rlB x) (tabD (lagRl x.rl) [1] fun n => .scalar [] (.int .i64 n))
end Sx
end
section
open Go Go.Proofs Sx
namespace Go.Proofs.Ytllmgnhjljmihaa
set_option maxRecDepth 100000
theorem lawNewX : Law Try.prog 14 (rdQuad.sp spNewX) :=
  law_tab lawNew _ _ _ _ fun b h => ⟨_, _, rfl, (fun _ p hp => by cases hp), fun ds => ⟨dsR ds (newRl b.1 b.2.1 b.2.2.1 b.2.2.2).1 [], by simp only [dsR, rlP_like]⟩⟩
theorem lawAplX : Law Try.prog 44 ((rdRl.two rdCy).sp spAplX) :=
  law_tab lawApl _ _ _ _ fun b h => ⟨_, _, rfl, fun _ p hp => by
    rw [List.mem_singleton.1 hp]
    simp only [Bool.and_eq_true] at h
    exact ⟨rlB_is h.1, cyB_is h.2⟩, fun ds => ⟨dsR ds (applyRl b.1.rl b.2.cy).1 (applyRl b.1.rl b.2.cy).2.1, by simp only [dsR, rlP_like, pMs, plain_like]⟩⟩
theorem lawNxtX : Law Try.prog 30 (rdRl.one.sp spNxtX) :=
  law_tab lawNxt _ _ _ _ fun b h => ⟨_, _, rfl, fun _ p hp => by rw [List.mem_singleton.1 hp]; exact rlB_is h, fun ds => ⟨fun i => match i with | 0 => (ds 0).like (nextRl b.rl).1.pos | _ => (ds 1).like (nextRl b.rl).1.wr, by simp only [cyP_like]⟩⟩
theorem lawClnX : Law Try.prog 31 ((rdRl.two rdMsg).sp spLrnX) :=
  law_tab lawCln _ _ _ _ fun b h => ⟨_, _, rfl, fun _ p hp => by rw [List.mem_singleton.1 hp]; exact rlB_is h, fun ds => ⟨dsR ds (learnRl b.1.rl b.2.msg).1 (learnRl b.1.rl b.2.msg).2, by simp only [dsR, rlP_like, pMs, plain_like]⟩⟩
theorem lawRstX : Law Try.prog 21 ((rdRl.three rdInt rdInt).sp spRstX) :=
  law_tab lawRst _ _ _ _ fun b h => ⟨_, _, rfl, fun _ p hp => by rw [List.mem_singleton.1 hp]; exact rlB_is h, fun ds => ⟨dsR ds (restartRl b.1.rl b.2.1 b.2.2).1 [], by simp only [dsR, rlP_like]⟩⟩
theorem lawLagX : Law Try.prog 19 (rdRl.one.sp spLagX) :=
  law_tab lawLag _ _ _ _ fun b h => ⟨_, _, rfl, fun _ p hp => by rw [List.mem_singleton.1 hp]; exact rlB_is h, rfl⟩
theorem lawEqIS : Law Try.prog 47 ((rdD.two rdD).sp spIntsS) :=
  law_sure lawEqI fun b => ⟨_, _, _, rfl, rfl, fun hp => by
    obtain ⟨h1, h2, h3, h4⟩ := hp _ (List.mem_singleton.2 rfl)
    exact ⟨fun p hp' => by rw [List.mem_singleton.1 hp']; exact ⟨h1, h2, h3⟩, decide_eq_true h4⟩⟩
noncomputable def ctTX : Ctrs := [(14, ctrOf (rdQuad.sp spNewX)), (44, ctrOf ((rdRl.two rdCy).sp spAplX)), (30, ctrOf (rdRl.one.sp spNxtX)), (31, ctrOf ((rdRl.two rdMsg).sp spLrnX)), (21, ctrOf ((rdRl.three rdInt rdInt).sp spRstX)), (19, ctrOf (rdRl.one.sp spLagX)), (47, ctrOf ((rdD.two rdD).sp spIntsS))]
theorem ctTXOk : Ctrs.Ok Try.prog ctTX := by
  intro x hx
  simp only [ctTX, List.mem_cons, List.not_mem_nil, or_false] at hx
  rcases hx with rfl | rfl | rfl | rfl | rfl | rfl | rfl
  · exact ctrOf_ok lawNewX
  · exact ctrOf_ok lawAplX
  · exact ctrOf_ok lawNxtX
  · exact ctrOf_ok lawClnX
  · exact ctrOf_ok lawRstX
  · exact ctrOf_ok lawLagX
  · exact ctrOf_ok lawEqIS
end Go.Proofs.Ytllmgnhjljmihaa
end
section
open Go Go.Proofs Sx
namespace Go.Proofs.Ytllmgnhjljmihaa
set_option maxRecDepth 100000
set_option maxHeartbeats 0
section
variable (b n d k v : Int)
theorem sml_in : exec Try.prog [] 300 (entry Try.prog 45 [.int .i64 b, .int .i64 n, .int .u8 d]) =
 Tree.need ((4 : Int) ≠ 0)
 (.all fun hs =>
 .all fun hs_1 =>
 .ret
 (.agg
 [.int .i64 b, .int .i64 n, .int .i64 0, .nils,
 .dat
 (D.slc (D.hd (hs_1 0 0)) 3
 [[D.int .i64 0, D.int .i64 (Int.tmod n 4),
 D.slc (D.hd (hs 0 0)) 8
 [[D.int .u8 (IntKind.wrap .u8 n), D.int .u8 d, D.int .u8 0,
 D.int .u8 0, D.int .u8 0, D.int .u8 0, D.int .u8 0,
 D.int .u8 0]]]])])) := by kernel_rfl

theorem asw_in : exec Try.prog [] 300 (entry Try.prog 46 [.int .i64 k, .int .i64 v]) =
 Tree.ret
 (.agg
 [.int .i64 k, .int .i64 2, .int .i64 0, .int .i64 0, .int .i64 v,
 .int .i64 1, .nils, .nils]) := by kernel_rfl

end
end Go.Proofs.Ytllmgnhjljmihaa
end
section
open Go Go.Proofs Sx
namespace Sx
def rdB8 : Rd1 Int where
  read x := match x with | .int .u8 n => some n | _ => none
  canon n := .int .u8 n
  right H E x b h hok := by
    split at h
    · cases h; exact ⟨rfl, trivial⟩
    · cases h
def smallC (b n d : Int) : Cy := ⟨b, n, 0, [], [⟨0, Int.tmod n 4, [⟨IntKind.u8.wrap n, d, 0, 0, 0, 0, 0, 0⟩]⟩]⟩
noncomputable def spSmL (x : Int × Int × Int) : SpecR := .data [] fun ds => .agg (cyL (ds 0) (ds 1) (smallC x.1 x.2.1 x.2.2))
noncomputable def spSmX (x : Int × Int × Int) : SpecR := .data [] fun ds => .agg (cyP (ds 0) (ds 1) (smallC x.1 x.2.1 x.2.2))
def spAsw (x : Int × Int) : SpecR := .data [] fun _ => .agg [.int .i64 x.1, .int .i64 2, .int .i64 0, .int .i64 0, .int .i64 x.2, .int .i64 1, .nils, .nils]
end Sx
namespace Go.Proofs.Ytllmgnhjljmihaa
set_option maxRecDepth 100000
theorem lawSml : Law Try.prog 45 ((rdInt.three rdInt rdB8).sp spSmL) := by
  refine law_in _ (by kernel_rfl) fun H w ⟨b, n, d⟩ hok hp => ?_
  apply exec_sound (noCtr _) 300
  rw [show (rdInt.three rdInt rdB8).canon (b, n, d) = [.int .i64 b, .int .i64 n, .int .u8 d] from rfl, sml_in]
  refine ⟨by decide, fun hs hs1 => ?_⟩
  have hx : (D.slc (D.hd (hs 0 0)) 8 [[.int .u8 (IntKind.u8.wrap n), .int .u8 d, .int .u8 0, .int .u8 0, .int .u8 0, .int .u8 0, .int .u8 0, .int .u8 0]]).Is Sec := is_rows rfl fun r hr => by
    rw [List.mem_singleton.1 hr]
    exact ⟨_, _, _, _, _, _, _, _, rfl⟩
  exact ret_cy stands_nils (stands_rows (α := Wt) rfl (wt_one 0 (Int.tmod n 4) hx)) rfl
theorem lawSmX : Law Try.prog 45 ((rdInt.three rdInt rdB8).sp spSmX) :=
  law_alt lawSml fun b => ⟨_, _, rfl, (fun _ p hp => by cases hp), fun ds => ⟨fun i => match i with | 0 => (ds 0).like (smallC b.1 b.2.1 b.2.2).pos | _ => (ds 1).like (smallC b.1 b.2.1 b.2.2).wr, by simp only [cyP_like]⟩⟩
theorem lawAsw : Law Try.prog 46 ((rdInt.two rdInt).sp spAsw) := by
  refine law_in _ (by kernel_rfl) fun H w ⟨k, v⟩ hok hp => ?_
  apply exec_sound (noCtr _) 300
  rw [show (rdInt.two rdInt).canon (k, v) = [.int .i64 k, .int .i64 v] from rfl, asw_in]
  exact ret_D (fun _ => default) (fun _ _ => rfl) (fun _ h => h)
noncomputable def ctTY : Ctrs := (45, ctrOf ((rdInt.three rdInt rdB8).sp spSmX)) :: (46, ctrOf ((rdInt.two rdInt).sp spAsw)) :: ctTX
theorem ctTYOk : Ctrs.Ok Try.prog ctTY := by
  intro x hx
  rcases List.mem_cons.1 hx with rfl | hx
  · exact ctrOf_ok lawSmX
  · rcases List.mem_cons.1 hx with rfl | hx
    · exact ctrOf_ok lawAsw
    · exact ctTXOk _ hx
end Go.Proofs.Ytllmgnhjljmihaa
end
section
open Go Go.Proofs Sx
namespace Go.Proofs.Ytllmgnhjljmihaa
set_option maxRecDepth 100000
set_option maxHeartbeats 0
section
theorem awake_in : (execU Try.prog ctTY (fun _ => true) 900 (entry Try.prog 13 [])).dec =
 Tree.all fun hs =>
 .all fun hs =>
 .all fun hs =>
 .all fun hs =>
 .all fun hs =>
 .all fun hs_1 =>
 .all fun hs_2 =>
 .all fun hs_3 =>
 .all fun hs_4 =>
 .need
 ((0 : Int) ≤ 0 ∧
 0 < (↑(D.len (pMs (hs 2 2) [Msg.mk 10 0 2 5 0 1 [] []])) : Int) ∧
 D.sz (pMs (hs 2 2) [Msg.mk 10 0 2 5 0 1 [] []]) = 8)
 (.need (D.HasCell (pMs (hs 2 2) [Msg.mk 10 0 2 5 0 1 [] []]) 0 0 (FT.int .i64))
 (.need
 ((0 : Int) ≤ 0 ∧
 0 < (↑(D.len (pMs (hs 2 2) [Msg.mk 10 0 2 5 0 1 [] []])) : Int) ∧
 D.sz (pMs (hs 2 2) [Msg.mk 10 0 2 5 0 1 [] []]) = 8)
 (.need (D.HasCell (pMs (hs 2 2) [Msg.mk 10 0 2 5 0 1 [] []]) 0 3 (FT.int .i64))
 (.need
 ((0 : Int) ≤ 0 ∧ 0 < (↑(D.len (pC (hs_2 2 1) [xc2])) : Int) ∧ D.sz (pC (hs_2 2 1) [xc2]) = 5)
 (.need (D.HasCell (pC (hs_2 2 1) [xc2]) 0 1 (FT.int .i64))
 (.all fun hs =>
 .need
 (D.Is Int (pI (hs_3 0 0) [6]) ∧
 D.Is Int (D.slc (D.hd (hs 0 0)) 1 [[D.int .i64 6]]) ∧
 D.len (pI (hs_3 0 0) [6]) ≤ 1048576 ∧
 D.to Int (pI (hs_3 0 0) [6]) =
 D.to Int (D.slc (D.hd (hs 0 0)) 1 [[D.int .i64 6]]))
 (.ret (.lb true)))))))) := by kernel_rfl

end
end Go.Proofs.Ytllmgnhjljmihaa
end
section
open Go Go.Proofs Sx
namespace Sx
noncomputable def spBeh (x : D × Int) : SpecR := .data [x.1.Is Cy ∧ x.1.len ≤ 1048576 ∧ ∀ c, c ∈ x.1.to Cy → CyOk c] fun ds => .dat ((ds 0).like (behindL (x.1.to Cy) x.2))
noncomputable def spCpRl (x : RlD) : SpecR := .data [x.Ok] fun ds => .agg (rlL (ds 0) (ds 1) x.rl)
end Sx
namespace Go.Proofs.Ytllmgnhjljmihaa
set_option maxRecDepth 100000
set_option maxHeartbeats 0
noncomputable def ctRsR : Ctrs := [(18, ctrOf (rdRl.one.sp spCkRl)), (68, ctrOf ((rdD.two rdInt).sp spBeh))]
noncomputable def ctSm : Ctrs := [(52, ctrOf ((rdD.two rdD).sp spInts)), (53, ctrOf ((rdCy.two rdCy).sp spCySame)), (55, ctrOf ((rdSrc.two rdSrc).sp spSame)), (43, ctrOf (rdCy.one.sp spFewC))]
noncomputable def rbL (d : D) (n : Int) (r : D) (j : Int) : Conf := Conf.mk (SFrm.mk 68 none none [Item.inLoop (cAt Try.prog 68 [1, 1, 0, 1, 0, 0]), Item.inBlock 0, Item.code (cAt Try.prog 68 [1, 1, 1])] (mkJ 0 [(0, .dat d), (1, .int .i64 n), (5, .vec 0), (6, .int .i64 j)] 0 29)) [] [(0, .arr 65 r)]
section
variable (d s o k r o' k' : D) (b : Nat) (n j a a1 a2 a3 a4 b1 b2 b3 b4 e si st ap ep na a1' a2' a3' a4' b1' b2' b3' b4' e' si' st' ap' : Int)
theorem rbL_go : exec Try.prog ctBgR 400 (unroll (rbL d n r j)) =
 Tree.br (decide (j < (↑(D.len d) : Int)))
 (.need (0 ≤ j ∧ j < (↑(D.len d) : Int) ∧ D.sz d = 5)
 (.need (D.HasCell d (Int.toNat j) 1 (FT.int .i64))
 (.br (decide (D.getInt d (Int.toNat j) 1 > n))
 (.need (0 ≤ j ∧ j < (↑(D.len d) : Int) ∧ D.sz d = 5)
 (.need
 (D.HasCells d (Int.toNat j) 0 [FT.int .i64, FT.int .i64, FT.int .i64, FT.slc, FT.slc])
 (.need
 (CyD.Ok
 (CyD.mk (D.getInt d (Int.toNat j) 0) (D.getInt d (Int.toNat j) 1) (D.getInt d (Int.toNat j) 2)
 (D.cell d (Int.toNat j) 3) (D.cell d (Int.toNat j) 4)))
 (.all fun hs =>
 .all fun hs_1 =>
 .need
 (D.sz r = 5 ∧
 D.Fits
 (D.slc (D.hd (hs_1 0 0)) 5
 [[D.int .i64 (D.getInt d (Int.toNat j) 0),
 D.int .i64 (D.getInt d (Int.toNat j) 1),
 D.int .i64 (D.getInt d (Int.toNat j) 2),
 D.like (hs 0 0) (D.to Int (D.cell d (Int.toNat j) 3)),
 D.like (hs 0 1) (D.to Wt (D.cell d (Int.toNat j) 4))]])
 5 ∧
 (D.len r +
 D.len
 (D.slc (D.hd (hs_1 0 0)) 5
 [[D.int .i64 (D.getInt d (Int.toNat j) 0),
 D.int .i64 (D.getInt d (Int.toNat j) 1),
 D.int .i64 (D.getInt d (Int.toNat j) 2),
 D.like (hs 0 0) (D.to Int (D.cell d (Int.toNat j) 3)),
 D.like (hs 0 1) (D.to Wt (D.cell d (Int.toNat j) 4))]])) *
 72 ≤
 140737488355328 ∧
 D.len r +
 D.len
 (D.slc (D.hd (hs_1 0 0)) 5
 [[D.int .i64 (D.getInt d (Int.toNat j) 0),
 D.int .i64 (D.getInt d (Int.toNat j) 1),
 D.int .i64 (D.getInt d (Int.toNat j) 2),
 D.like (hs 0 0) (D.to Int (D.cell d (Int.toNat j) 3)),
 D.like (hs 0 1) (D.to Wt (D.cell d (Int.toNat j) 4))]]) ≤
 9223372036854775807)
 (.all fun hs_2 =>
 .leaf
 (Conf.mk
 (SFrm.mk 68 none none
 [Item.inLoop (cAt Try.prog 68 [1, 1, 0, 1, 0, 0]), Item.inBlock 0,
 Item.code (cAt Try.prog 68 [1, 1, 1])]
 (mkJ 0
 [(0, .dat d), (1, .int .i64 n), (5, .vec 0),
 (6, .int .i64 (IntKind.wrap .i64 (j + 1)))]
 0 29))
 []
 [(0,
 OBlk.arr 65
 (D.slc (D.hd (hs_2 0 0)) 5
 (List.append (D.rows r)
 (D.rows
 (D.slc (D.hd (hs_1 0 0)) 5
 [[D.int .i64 (D.getInt d (Int.toNat j) 0),
 D.int .i64 (D.getInt d (Int.toNat j) 1),
 D.int .i64 (D.getInt d (Int.toNat j) 2),
 D.like (hs 0 0) (D.to Int (D.cell d (Int.toNat j) 3)),
 D.like (hs 0 1) (D.to Wt (D.cell d (Int.toNat j) 4))]])))))]))))))
 (.leaf
 (Conf.mk
 (SFrm.mk 68 none none
 [Item.inLoop (cAt Try.prog 68 [1, 1, 0, 1, 0, 0]), Item.inBlock 0, Item.code (cAt Try.prog 68 [1, 1, 1])]
 (mkJ 0
 [(0, .dat d), (1, .int .i64 n), (5, .vec 0),
 (6, .int .i64 (IntKind.wrap .i64 (j + 1)))]
 0 29))
 [] [(0, OBlk.arr 65 r)])))))
 (.ret (.dat r)) := by kernel_rfl

theorem rstR_in : 
 let z1 : List SV := [.int .i64 0, .int .i64 0, .int .i64 0, .int .i64 0, .int .i64 0, .int .i64 0, .int .i64 0, .int .i64 0, .int .i64 0, .int .i64 0, .nils, .int .i64 0, .int .i64 0, .nils]
 let z2 := (RlD.mk (Tgt.mk a1 a2 a3 a4) (Tgt.mk b1 b2 b3 b4) (SrcD.mk e si o st ap) k)
 exec Try.prog ctRsR 400 (entry Try.prog 22 [.agg [.int .i64 a1, .int .i64 a2, .int .i64 a3, .int .i64 a4, .int .i64 b1, .int .i64 b2, .int .i64 b3, .int .i64 b4, .int .i64 e, .int .i64 si, .dat o, .int .i64 st, .int .i64 ap, .dat k], .int .i64 ep, .int .i64 na]) =
 Tree.need (RlD.Ok z2) (.br (ckRl (RlD.rl z2) != 0) (.ret (SV.tup [.agg z1, .int .i64 (ckRl (RlD.rl z2))])) (.br (decide (ep < a1)) (.ret (SV.tup [.agg z1, .int .i64 13])) (.br (decide (ep > 1073741824))
 (.ret (SV.tup [.agg z1, .int .i64 2])) (.br (decide (na < 0)) (.ret (SV.tup [.agg z1, .int .i64 2])) (.br (decide (na > a4)) (.ret (SV.tup [.agg z1, .int .i64 2])) (.need (D.Is Cy k ∧ D.len k ≤ 1048576 ∧ ∀
 (c : Cy), List.Mem c (D.to Cy k) → CyOk c) (.all fun hs => .all fun hs_1 => .br (decide (na < a4)) (.br (decide ((↑(D.len (D.like (hs 0 0) (behindL (D.to Cy k) na))) : Int) = 0)) (.need (decide (na < a4) = true)
 (.need (decide (na < a4) = true) (.need (decide (na < a4) = true) (.need (decide (na < a4) = true) (.need (decide ((↑(D.len (D.like (hs 0 0) (behindL (D.to Cy k) na))) : Int) = 0) = true) (.need (decide
 ((↑(D.len (D.like (hs 0 0) (behindL (D.to Cy k) na))) : Int) = 0) = true) (.need (decide ((↑(D.len (D.like (hs 0 0) (behindL (D.to Cy k) na))) : Int) = 0) = true) (.need (decide ((↑(D.len (D.like (hs 0 0)
 (behindL (D.to Cy k) na))) : Int) = 0) = true) (.need (decide ((↑(D.len (D.like (hs 0 0) (behindL (D.to Cy k) na))) : Int) = 0) = true) (.need (decide ((↑(D.len (D.like (hs 0 0) (behindL (D.to Cy k) na))) : Int) = 0) = true)
 (.need (decide (na < a4) = true) (.need (decide ((↑(D.len (D.like (hs 0 0) (behindL (D.to Cy k) na))) : Int) = 0) = true) (.need (decide (na < a4) = true) (.need (decide (na < a4) = true) (.need (decide
 (na < a4) = true) (.ret (SV.tup [.agg z1, .int .i64 15]))))))))))))))))) (.br (decide (D.getInt (D.like (hs 0 0) (behindL (D.to Cy k) na)) 0 0 > na)) (.need (decide (na < a4) = true) (.need (decide (na < a4) = true)
 (.need (decide (na < a4) = true) (.need (decide (na < a4) = true) (.need (decide ((↑(D.len (D.like (hs 0 0) (behindL (D.to Cy k) na))) : Int) = 0) = false) (.need (decide ((↑(D.len (D.like (hs 0 0) (behindL
 (D.to Cy k) na))) : Int) = 0) = false) (.need ((0 : Int) ≤ 0 ∧ 0 < (↑(D.len (D.like (hs 0 0) (behindL (D.to Cy k) na))) : Int) ∧ D.sz (D.like (hs 0 0) (behindL (D.to Cy k) na)) = 5) (.need (decide ((↑(D.len
 (D.like (hs 0 0) (behindL (D.to Cy k) na))) : Int) = 0) = false) (.need (decide ((↑(D.len (D.like (hs 0 0) (behindL (D.to Cy k) na))) : Int) = 0) = false) (.need (D.HasCell (D.like (hs 0 0) (behindL (D.to Cy k) na)) 0 0
 (FT.int .i64)) (.need (decide ((↑(D.len (D.like (hs 0 0) (behindL (D.to Cy k) na))) : Int) = 0) = false) (.need (decide ((↑(D.len (D.like (hs 0 0) (behindL (D.to Cy k) na))) : Int) = 0) = false) (.need
 (decide (na < a4) = true) (.need (decide ((↑(D.len (D.like (hs 0 0) (behindL (D.to Cy k) na))) : Int) = 0) = false) (.need (decide (na < a4) = true) (.need (decide (D.getInt (D.like (hs 0 0) (behindL (D.to Cy k) na)) 0 0 > na) = true)
 (.need (decide (D.getInt (D.like (hs 0 0) (behindL (D.to Cy k) na)) 0 0 > na) = true) (.need (decide (D.getInt (D.like (hs 0 0) (behindL (D.to Cy k) na)) 0 0 > na) = true) (.need (decide (D.getInt (D.like
 (hs 0 0) (behindL (D.to Cy k) na)) 0 0 > na) = true) (.need (decide (D.getInt (D.like (hs 0 0) (behindL (D.to Cy k) na)) 0 0 > na) = true) (.need (decide (D.getInt (D.like (hs 0 0) (behindL (D.to Cy k) na)) 0 0 > na) = true)
 (.need (decide (D.getInt (D.like (hs 0 0) (behindL (D.to Cy k) na)) 0 0 > na) = true) (.need (decide (D.getInt (D.like (hs 0 0) (behindL (D.to Cy k) na)) 0 0 > na) = true) (.need (decide (D.getInt (D.like
 (hs 0 0) (behindL (D.to Cy k) na)) 0 0 > na) = true) (.need (decide (D.getInt (D.like (hs 0 0) (behindL (D.to Cy k) na)) 0 0 > na) = true) (.need (decide (D.getInt (D.like (hs 0 0) (behindL (D.to Cy k) na)) 0 0 > na) = true)
 (.need (decide (na < a4) = true) (.need (decide (D.getInt (D.like (hs 0 0) (behindL (D.to Cy k) na)) 0 0 > na) = true) (.need (decide (na < a4) = true) (.ret (SV.tup [.agg z1, .int .i64 15])))))))))))))))))))))))))))))))
 (.need (decide (na < a4) = true) (.need (decide (na < a4) = true) (.need (decide (na < a4) = true) (.need (decide (na < a4) = true) (.need (decide ((↑(D.len (D.like (hs 0 0) (behindL (D.to Cy k) na))) : Int) = 0) = false)
 (.need (decide ((↑(D.len (D.like (hs 0 0) (behindL (D.to Cy k) na))) : Int) = 0) = false) (.need ((0 : Int) ≤ 0 ∧ 0 < (↑(D.len (D.like (hs 0 0) (behindL (D.to Cy k) na))) : Int) ∧ D.sz (D.like (hs 0 0)
 (behindL (D.to Cy k) na)) = 5) (.need (decide ((↑(D.len (D.like (hs 0 0) (behindL (D.to Cy k) na))) : Int) = 0) = false) (.need (decide ((↑(D.len (D.like (hs 0 0) (behindL (D.to Cy k) na))) : Int) = 0) = false)
 (.need (D.HasCell (D.like (hs 0 0) (behindL (D.to Cy k) na)) 0 0 (FT.int .i64)) (.need (decide ((↑(D.len (D.like (hs 0 0) (behindL (D.to Cy k) na))) : Int) = 0) = false) (.need (decide ((↑(D.len (D.like
 (hs 0 0) (behindL (D.to Cy k) na))) : Int) = 0) = false) (.need (decide (na < a4) = true) (.need (decide ((↑(D.len (D.like (hs 0 0) (behindL (D.to Cy k) na))) : Int) = 0) = false) (.need (decide (na < a4) = true)
 (.need (decide (D.getInt (D.like (hs 0 0) (behindL (D.to Cy k) na)) 0 0 > na) = false) (.need (decide (D.getInt (D.like (hs 0 0) (behindL (D.to Cy k) na)) 0 0 > na) = false) (.need (decide (D.getInt (D.like
 (hs 0 0) (behindL (D.to Cy k) na)) 0 0 > na) = false) (.need (decide (D.getInt (D.like (hs 0 0) (behindL (D.to Cy k) na)) 0 0 > na) = false) (.need (decide (D.getInt (D.like (hs 0 0) (behindL (D.to Cy k) na)) 0 0 > na) = false)
 (.need (0 ≤ IntKind.wrap .i64 ((↑(D.len (D.like (hs 0 0) (behindL (D.to Cy k) na))) : Int) - 1) ∧ IntKind.wrap .i64 ((↑(D.len (D.like (hs 0 0) (behindL (D.to Cy k) na))) : Int) - 1) < (↑(D.len (D.like
 (hs 0 0) (behindL (D.to Cy k) na))) : Int) ∧ D.sz (D.like (hs 0 0) (behindL (D.to Cy k) na)) = 5) (.need (decide (D.getInt (D.like (hs 0 0) (behindL (D.to Cy k) na)) 0 0 > na) = false) (.need (decide (D.getInt
 (D.like (hs 0 0) (behindL (D.to Cy k) na)) 0 0 > na) = false) (.need (D.HasCell (D.like (hs 0 0) (behindL (D.to Cy k) na)) (Int.toNat (IntKind.wrap .i64 ((↑(D.len (D.like (hs 0 0) (behindL (D.to Cy k) na))) : Int) - 1))) 1
 (FT.int .i64)) (.need (decide (D.getInt (D.like (hs 0 0) (behindL (D.to Cy k) na)) 0 0 > na) = false) (.need (decide (D.getInt (D.like (hs 0 0) (behindL (D.to Cy k) na)) 0 0 > na) = false) (.need (decide
 (D.getInt (D.like (hs 0 0) (behindL (D.to Cy k) na)) 0 0 > na) = false) (.need (decide (D.getInt (D.like (hs 0 0) (behindL (D.to Cy k) na)) 0 0 > na) = false) (.need (decide (na < a4) = true) (.need (decide
 (D.getInt (D.like (hs 0 0) (behindL (D.to Cy k) na)) 0 0 > na) = false) (.need (decide (na < a4) = true) (.br (D.getInt (D.like (hs 0 0) (behindL (D.to Cy k) na)) (Int.toNat (IntKind.wrap .i64 ((↑(D.len
 (D.like (hs 0 0) (behindL (D.to Cy k) na))) : Int) - 1))) 1 != a4) (.ret (SV.tup [.agg z1, .int .i64 15])) (.leaf (Conf.mk (SFrm.mk 22 none none [Item.inLoop (cAt Try.prog 22 [1, 1, 1, 1, 1, 1, 1, 1, 1, 1, 0, 1, 0, 0]), Item.inBlock 0, Item.code
 (cAt Try.prog 22 [1, 1, 1, 1, 1, 1, 1, 1, 1, 1, 1])] (mkJ 0 [(6, .ptr 0 0), (9, .dat (D.like (hs 0 0) (behindL (D.to Cy k) na))), (10, .ptr 1 0), (11, .int .i64 0)] 0 119)) [] [(0, OBlk.cells 37 z1), (1, OBlk.cells 37 [.int .i64 ep, .int .i64 a2, .int .i64 a3, .int .i64 a4, .int .i64 ep, .int .i64 b2, .int .i64 na, .int .i64 na, .int .i64 ep, .int .i64 b2, .nils, .int .i64 na, .int .i64 na, .dat
 (D.like (hs 0 0) (behindL (D.to Cy k) na))])])))))))))))))))))))))))))))))))))))) (.need (decide (na < a4) = false) (.need (decide (na < a4) = false) (.need (decide (na < a4) = false) (.need (decide (na < a4) = false)
 (.need (decide (na < a4) = false) (.need (decide (na < a4) = false) (.need (decide (na < a4) = false) (.need (decide (na < a4) = false) (.leaf (Conf.mk (SFrm.mk 22 none none [Item.inLoop (cAt Try.prog 22 [1, 1, 1, 1, 1, 1, 1, 1, 1, 1, 0, 1, 0, 0]), Item.inBlock 0, Item.code
 (cAt Try.prog 22 [1, 1, 1, 1, 1, 1, 1, 1, 1, 1, 1])] (mkJ 0 [(6, .ptr 0 0), (9, .dat (D.like (hs 0 0) (behindL (D.to Cy k) na))), (10, .ptr 1 0), (11, .int .i64 0)] 0 119)) [] [(0, OBlk.cells 37 z1), (1, OBlk.cells 37 [.int .i64 ep, .int .i64 a2, .int .i64 a3, .int .i64 a4, .int .i64 ep, .int .i64 b2, .int .i64 na, .int .i64 na, .int .i64 ep, .int .i64 b2, .nils, .int .i64 na, .int .i64 na, .dat
 (D.like (hs 0 0) (behindL (D.to Cy k) na))])]))))))))))))))))) := by
 intros; kernel_rfl

theorem smR_in : exec Try.prog ctSm 400 (entry Try.prog 16 [.agg [.int .i64 a1, .int .i64 a2, .int .i64 a3, .int .i64 a4, .int .i64 b1, .int .i64 b2, .int .i64 b3, .int .i64 b4, .int .i64 e, .int .i64 si, .dat o, .int .i64 st, .int .i64 ap, .dat k], .agg [.int .i64 a1', .int .i64 a2', .int .i64 a3', .int .i64 a4', .int .i64 b1', .int .i64 b2', .int .i64 b3', .int .i64 b4', .int .i64 e', .int .i64 si', .dat o', .int .i64 st', .int .i64 ap', .dat k']]) =
 Tree.br ((↑(D.len k) : Int) != (↑(D.len k') : Int)) (.ret (.lb false))
 (.need (D.Is Int o ∧ D.Is Int o' ∧ D.len o ≤ 1048576)
 (.br (!decide (D.to Int o = D.to Int o')) (.ret (.lb false))
 (.leaf
 (Conf.mk
 (SFrm.mk 16 none none
 [Item.inLoop (cAt Try.prog 16 [1, 1, 0, 1, 0, 0]), Item.inBlock 0, Item.code (cAt Try.prog 16 [1, 1, 1])]
 (mkJ 0 [(2, .ptr 0 0), (3, .ptr 1 0), (5, .int .i64 0)] 0 61))
 []
 [(0,
 OBlk.cells 37
 [.int .i64 a1, .int .i64 a2, .int .i64 a3, .int .i64 a4,
 .int .i64 b1, .int .i64 b2, .int .i64 b3, .int .i64 b4,
 .int .i64 e, .int .i64 si, .dat o, .int .i64 st, .int .i64 ap,
 .dat k]),
 (1,
 OBlk.cells 37
 [.int .i64 a1', .int .i64 a2', .int .i64 a3', .int .i64 a4',
 .int .i64 b1', .int .i64 b2', .int .i64 b3', .int .i64 b4',
 .int .i64 e', .int .i64 si', .dat o', .int .i64 st',
 .int .i64 ap', .dat k'])])))) := by kernel_rfl

theorem fwR_in : exec Try.prog ctSm 400 (entry Try.prog 12 [.agg [.int .i64 a1, .int .i64 a2, .int .i64 a3, .int .i64 a4, .int .i64 b1, .int .i64 b2, .int .i64 b3, .int .i64 b4, .int .i64 e, .int .i64 si, .dat o, .int .i64 st, .int .i64 ap, .dat k]]) =
 Tree.br (decide ((↑(D.len o) : Int) > 40)) (.ret (.lb false))
 (.br (decide ((↑(D.len k) : Int) > 40)) (.ret (.lb false))
 (.leaf
 (Conf.mk
 (SFrm.mk 12 none none
 [Item.inLoop (cAt Try.prog 12 [1, 1, 0, 1, 0, 0]), Item.inBlock 0, Item.code (cAt Try.prog 12 [1, 1, 1])]
 (mkJ 0 [(1, .ptr 0 0), (3, .int .i64 0)] 0 29))
 []
 [(0,
 OBlk.cells 37
 [.int .i64 a1, .int .i64 a2, .int .i64 a3, .int .i64 a4,
 .int .i64 b1, .int .i64 b2, .int .i64 b3, .int .i64 b4,
 .int .i64 e, .int .i64 si, .dat o, .int .i64 st, .int .i64 ap,
 .dat k])]))) := by kernel_rfl

end
end Go.Proofs.Ytllmgnhjljmihaa
end
section
open Go Go.Proofs Sx
namespace Go.Proofs.Ytllmgnhjljmihaa
set_option maxRecDepth 100000
set_option maxHeartbeats 0
noncomputable def rrL (d : D) (ep a2 a3 a4 b2 na : Int) (r : D) (j : Int) : Conf := Conf.mk (SFrm.mk 22 none none [Item.inLoop (cAt Try.prog 22 [1, 1, 1, 1, 1, 1, 1, 1, 1, 1, 0, 1, 0, 0]), Item.inBlock 0, Item.code (cAt Try.prog 22 [1, 1, 1, 1, 1, 1, 1, 1, 1, 1, 1])] (mkJ 0 [(6, .ptr 0 0), (9, .dat d), (10, .ptr 1 0), (11, .int .i64 j)] 0 119)) []
 [(0, OBlk.cells 37 rlZ), (1, OBlk.cells 37 [.int .i64 ep, .int .i64 a2, .int .i64 a3, .int .i64 a4, .int .i64 ep, .int .i64 b2, .int .i64 na, .int .i64 na, .int .i64 ep, .int .i64 b2, .vec 2, .int .i64 na, .int .i64 na, .dat d]), (2, .arr 3 r)]
noncomputable def smRL (x y : RlD) (j : Int) : Conf := Conf.mk (SFrm.mk 16 none none [Item.inLoop (cAt Try.prog 16 [1, 1, 0, 1, 0, 0]), Item.inBlock 0, Item.code (cAt Try.prog 16 [1, 1, 1])] (mkJ 0 [(2, .ptr 0 0), (3, .ptr 1 0), (5, .int .i64 j)] 0 61)) [] [(0, OBlk.cells 37 (rlCs x)), (1, OBlk.cells 37 (rlCs y))]
noncomputable def fwRL (x : RlD) (j : Int) : Conf := Conf.mk (SFrm.mk 12 none none [Item.inLoop (cAt Try.prog 12 [1, 1, 0, 1, 0, 0]), Item.inBlock 0, Item.code (cAt Try.prog 12 [1, 1, 1])] (mkJ 0 [(1, .ptr 0 0), (3, .int .i64 j)] 0 29)) [] [(0, OBlk.cells 37 (rlCs x))]
section
variable (d s o k r o' k' : D) (b : Nat) (n j a a1 a2 a3 a4 b1 b2 b3 b4 e si st ap ep na a1' a2' a3' a4' b1' b2' b3' b4' e' si' st' ap' : Int)
theorem rrL_go : exec Try.prog [] 400 (unroll (rrL d ep a2 a3 a4 b2 na r j)) =
 Tree.br (decide (j < (↑(D.len d) : Int)))
 (.all fun hs =>
 .need (0 ≤ j ∧ j < (↑(D.len d) : Int) ∧ D.sz d = 5)
 (.need (D.HasCell d (Int.toNat j) 1 (FT.int .i64))
 (.need
 (D.sz r = 1 ∧
 D.Fits (D.slc (D.hd (hs 8 0)) 1 [[D.int .i64 (D.getInt d (Int.toNat j) 1)]]) 1 ∧
 (D.len r + D.len (D.slc (D.hd (hs 8 0)) 1 [[D.int .i64 (D.getInt d (Int.toNat j) 1)]])) * 8 ≤
 140737488355328 ∧
 D.len r + D.len (D.slc (D.hd (hs 8 0)) 1 [[D.int .i64 (D.getInt d (Int.toNat j) 1)]]) ≤
 9223372036854775807)
 (.leaf
 (Conf.mk
 (SFrm.mk 22 none none
 [Item.inLoop (cAt Try.prog 22 [1, 1, 1, 1, 1, 1, 1, 1, 1, 1, 0, 1, 0, 0]), Item.inBlock 0,
 Item.code (cAt Try.prog 22 [1, 1, 1, 1, 1, 1, 1, 1, 1, 1, 1])]
 (mkJ 0
 [(6, .ptr 0 0), (9, .dat d), (10, .ptr 1 0),
 (11, .int .i64 (IntKind.wrap .i64 (j + 1)))]
 0 119))
 []
 [(0,
 OBlk.cells 37
 [.int .i64 0, .int .i64 0, .int .i64 0, .int .i64 0,
 .int .i64 0, .int .i64 0, .int .i64 0, .int .i64 0,
 .int .i64 0, .int .i64 0, .nils, .int .i64 0, .int .i64 0,
 .nils]),
 (1,
 OBlk.cells 37
 [.int .i64 ep, .int .i64 a2, .int .i64 a3, .int .i64 a4,
 .int .i64 ep, .int .i64 b2, .int .i64 na, .int .i64 na,
 .int .i64 ep, .int .i64 b2, .vec 2, .int .i64 na,
 .int .i64 na, .dat d]),
 (2,
 OBlk.arr 3
 (D.slc (D.hd (hs 9 0)) 1
 (List.append (D.rows r)
 (D.rows (D.slc (D.hd (hs 8 0)) 1 [[D.int .i64 (D.getInt d (Int.toNat j) 1)]])))))])))))
 (.ret
 (SV.tup
 [.agg
 [.int .i64 ep, .int .i64 a2, .int .i64 a3, .int .i64 a4,
 .int .i64 ep, .int .i64 b2, .int .i64 na, .int .i64 na,
 .int .i64 ep, .int .i64 b2, .dat r, .int .i64 na, .int .i64 na,
 .dat d],
 .int .i64 0])) := by kernel_rfl

theorem smRL_go : exec Try.prog ctSm 400 (unroll (smRL ⟨⟨a1, a2, a3, a4⟩, ⟨b1, b2, b3, b4⟩, ⟨e, si, o, st, ap⟩, k⟩ ⟨⟨a1', a2', a3', a4'⟩, ⟨b1', b2', b3', b4'⟩, ⟨e', si', o', st', ap'⟩, k'⟩ j)) =
 Tree.br (decide (j < (↑(D.len k) : Int)))
 (.all fun hs =>
 .need (0 ≤ j ∧ j < (↑(D.len k) : Int) ∧ D.sz k = 5)
 (.need
 (D.HasCells k (Int.toNat j) 0 [FT.int .i64, FT.int .i64, FT.int .i64, FT.slc, FT.slc])
 (.need (0 ≤ j ∧ j < (↑(D.len k') : Int) ∧ D.sz k' = 5)
 (.need
 (D.HasCells k' (Int.toNat j) 0 [FT.int .i64, FT.int .i64, FT.int .i64, FT.slc, FT.slc])
 (.need
 (CyD.Ok
 (CyD.mk (D.getInt k (Int.toNat j) 0) (D.getInt k (Int.toNat j) 1) (D.getInt k (Int.toNat j) 2)
 (D.cell k (Int.toNat j) 3) (D.cell k (Int.toNat j) 4)) ∧
 CyD.Ok
 (CyD.mk (D.getInt k' (Int.toNat j) 0) (D.getInt k' (Int.toNat j) 1) (D.getInt k' (Int.toNat j) 2)
 (D.cell k' (Int.toNat j) 3) (D.cell k' (Int.toNat j) 4)))
 (.br
 (!decide
 (CyD.cy
 (CyD.mk (D.getInt k (Int.toNat j) 0) (D.getInt k (Int.toNat j) 1) (D.getInt k (Int.toNat j) 2)
 (D.cell k (Int.toNat j) 3) (D.cell k (Int.toNat j) 4)) =
 CyD.cy
 (CyD.mk (D.getInt k' (Int.toNat j) 0) (D.getInt k' (Int.toNat j) 1)
 (D.getInt k' (Int.toNat j) 2) (D.cell k' (Int.toNat j) 3) (D.cell k' (Int.toNat j) 4))))
 (.ret (.lb false))
 (.leaf
 (Conf.mk
 (SFrm.mk 16 none none
 [Item.inLoop (cAt Try.prog 16 [1, 1, 0, 1, 0, 0]), Item.inBlock 0,
 Item.code (cAt Try.prog 16 [1, 1, 1])]
 (mkJ 0
 [(2, .ptr 0 0), (3, .ptr 1 0), (5, .int .i64 (IntKind.wrap .i64 (j + 1)))] 0
 61))
 []
 [(0,
 OBlk.cells 37
 [.int .i64 a1, .int .i64 a2, .int .i64 a3, .int .i64 a4,
 .int .i64 b1, .int .i64 b2, .int .i64 b3, .int .i64 b4,
 .int .i64 e, .int .i64 si, .dat o, .int .i64 st,
 .int .i64 ap, .dat k]),
 (1,
 OBlk.cells 37
 [.int .i64 a1', .int .i64 a2', .int .i64 a3',
 .int .i64 a4', .int .i64 b1', .int .i64 b2',
 .int .i64 b3', .int .i64 b4', .int .i64 e',
 .int .i64 si', .dat o', .int .i64 st', .int .i64 ap',
 .dat k'])]))))))))
 (.br (decide (a1 = a1') && (decide (a2 = a2') && (decide (a3 = a3') && (decide (a4 = a4') && true))))
 (.br (decide (b1 = b1') && (decide (b2 = b2') && (decide (b3 = b3') && (decide (b4 = b4') && true))))
 (.need (D.Is Int o ∧ D.Is Int o' ∧ D.len o ≤ 1048576)
 (.ret (.bool (decide (SrcD.src (SrcD.mk e si o st ap) = SrcD.src (SrcD.mk e' si' o' st' ap'))))))
 (.ret (.lb false)))
 (.ret (.lb false))) := by kernel_rfl

theorem fwRL_go : exec Try.prog ctSm 400 (unroll (fwRL ⟨⟨a1, a2, a3, a4⟩, ⟨b1, b2, b3, b4⟩, ⟨e, si, o, st, ap⟩, k⟩ j)) =
 Tree.br (decide (j < (↑(D.len k) : Int)))
 (.need (0 ≤ j ∧ j < (↑(D.len k) : Int) ∧ D.sz k = 5)
 (.need
 (D.HasCells k (Int.toNat j) 0 [FT.int .i64, FT.int .i64, FT.int .i64, FT.slc, FT.slc])
 (.need (D.Is Int (D.cell k (Int.toNat j) 3) ∧ D.Is Wt (D.cell k (Int.toNat j) 4))
 (.br
 (!fewC
 (CyD.cy
 (CyD.mk (D.getInt k (Int.toNat j) 0) (D.getInt k (Int.toNat j) 1) (D.getInt k (Int.toNat j) 2)
 (D.cell k (Int.toNat j) 3) (D.cell k (Int.toNat j) 4))))
 (.ret (.lb false))
 (.leaf
 (Conf.mk
 (SFrm.mk 12 none none
 [Item.inLoop (cAt Try.prog 12 [1, 1, 0, 1, 0, 0]), Item.inBlock 0,
 Item.code (cAt Try.prog 12 [1, 1, 1])]
 (mkJ 0 [(1, .ptr 0 0), (3, .int .i64 (IntKind.wrap .i64 (j + 1)))] 0 29))
 []
 [(0,
 OBlk.cells 37
 [.int .i64 a1, .int .i64 a2, .int .i64 a3, .int .i64 a4,
 .int .i64 b1, .int .i64 b2, .int .i64 b3, .int .i64 b4,
 .int .i64 e, .int .i64 si, .dat o, .int .i64 st,
 .int .i64 ap, .dat k])]))))))
 (.ret (.lb true)) := by kernel_rfl

end
end Go.Proofs.Ytllmgnhjljmihaa
end
section
open Go Go.Proofs Sx
namespace Go.Proofs.Ytllmgnhjljmihaa
set_option maxRecDepth 100000
set_option maxHeartbeats 0
noncomputable def sm0L (P : Program) (e s st ap e' s' st' ap' : Int) (d o : D) (j : Int) : Conf := Conf.mk (SFrm.mk 55 none none
 [Item.inLoop (cAt P 55 [1, 1, 0, 1, 0, 0]), Item.inBlock 0, Item.code (cAt P 55 [1, 1, 1])]
 (mkJ 0 [(2, .ptr 0 0), (3, .ptr 1 0), (5, .int .i64 j)] 0 59))
 [] [(0, .cells 34 [.int .i64 e, .int .i64 s, .dat d, .int .i64 st, .int .i64 ap]), (1, .cells 34 [.int .i64 e', .int .i64 s', .dat o, .int .i64 st', .int .i64 ap'])]
section
variable (e s st ap j n last k m e' s' st' ap' mk mf mt mn mv me mx xk xf xt xn xv xe : Int) (d d' mb ml xb xl : D) (o ms : D)
theorem sm0_go : exec Try.prog ctS32 300 (unroll (sm0L Try.prog e s st ap e' s' st' ap' d o j)) =
 Tree.br (decide (j < (↑(D.len d) : Int)))
 (.all fun hs =>
 .need (0 ≤ j ∧ j < (↑(D.len d) : Int) ∧ D.sz d = 1)
 (.need (D.HasCell d (Int.toNat j) 0 (FT.int .i64))
 (.need (0 ≤ j ∧ j < (↑(D.len o) : Int) ∧ D.sz o = 1)
 (.need (D.HasCell o (Int.toNat j) 0 (FT.int .i64))
 (.br (D.getInt d (Int.toNat j) 0 != D.getInt o (Int.toNat j) 0) (.ret (.lb false))
 (.leaf
 (Conf.mk
 (SFrm.mk 55 none none
 [Item.inLoop (cAt Try.prog 55 [1, 1, 0, 1, 0, 0]), Item.inBlock 0,
 Item.code (cAt Try.prog 55 [1, 1, 1])]
 (mkJ 0
 [(2, .ptr 0 0), (3, .ptr 1 0), (5, .int .i64 (IntKind.wrap .i64 (j + 1)))] 0
 59))
 []
 [(0,
 OBlk.cells 34
 [.int .i64 e, .int .i64 s, .dat d, .int .i64 st,
 .int .i64 ap]),
 (1,
 OBlk.cells 34
 [.int .i64 e', .int .i64 s', .dat o, .int .i64 st',
 .int .i64 ap'])])))))))
 (.ret (.lb true)) := by kernel_rfl

end
end Go.Proofs.Ytllmgnhjljmihaa
end
section
open Go Go.Proofs Sx
namespace Go.Proofs.Ytllmgnhjljmihaa
set_option maxRecDepth 100000
theorem take_eq32 {α : Type _} {xs ys : List α} {j : Nat} (hx : j < xs.length) (hy : j < ys.length) : xs.take (j + 1) = ys.take (j + 1) ↔ xs.take j = ys.take j ∧ xs[j] = ys[j] := by
  rw [List.take_succ_eq_append_getElem hx, List.take_succ_eq_append_getElem hy]
  constructor
  · intro h
    have := List.append_inj h (by simp; omega)
    exact ⟨this.1, by simpa using this.2⟩
  · rintro ⟨h1, h2⟩; rw [h1, h2]

theorem ne_of_take32 {α : Type _} {xs ys : List α} {j : Nat} (hx : j < xs.length) (hy : j < ys.length) (h : xs[j] ≠ ys[j]) : xs ≠ ys := by
  rintro rfl; exact h rfl

theorem lawSame32 : Law Try.prog 55 ((rdSrc.two rdSrc).sp spSame) := by
  refine law_in _ (by kernel_rfl) fun H w ⟨⟨e, s, d, st, ap⟩, ⟨e', s', o, st', ap'⟩⟩ hok hp => ?_
  obtain ⟨hd, ho, hlen⟩ := hp _ (List.mem_singleton.2 rfl)
  simp only at hd ho hlen
  clear hp hok
  have hl := D.Is.length (α := Int) d
  have hl' := D.Is.length (α := Int) o
  apply exec_sound (noCtr _) 300
  rw [show (rdSrc.two rdSrc).canon (⟨e, s, d, st, ap⟩, ⟨e', s', o, st', ap'⟩) = [.agg [.int .i64 e, .int .i64 s, .dat d, .int .i64 st, .int .i64 ap], .agg [.int .i64 e', .int .i64 s', .dat o, .int .i64 st', .int .i64 ap']] from rfl, same_in32]
  simp only [SrcD.src, Src.mk.injEq]
  refine ⟨fun h1 => ret_lb ?_, fun h1 => ⟨fun h2 => ret_lb ?_, fun h2 => ⟨fun h3 => ret_lb ?_, fun h3 => ⟨fun h4 => ret_lb ?_, fun h4 => ⟨fun h5 => ret_lb ?_, fun h5 => ?_⟩⟩⟩⟩⟩
  · simp at h1; simp [h1]
  · simp at h2; simp [h2]
  · simp at h3; simp [h3]
  · simp at h4; simp [h4]
  · simp [hl, hl'] at h5
    symm
    simp only [decide_eq_false_iff_not]
    rintro ⟨_, _, h, _⟩
    exact h5 (by rw [h])
  · simp only [bne_eq_false_iff_eq] at h1 h2 h3 h4 h5
    subst h1; subst h2; subst h3; subst h4
    have h5 : (d.to Int).length = (o.to Int).length := by omega
    refine runs_loop (fun j : Nat => sm0L Try.prog e s st ap e s st ap d o j) (fun j => j ≤ (d.to Int).length ∧ (d.to Int).take j = (o.to Int).take j) (fun j => (d.to Int).length - j) (fun _ => rfl) ?_ 0 ⟨Nat.zero_le _, by simp⟩
    intro j ⟨hj, hpre⟩ ih
    apply exec_sound ctS32Ok 300
    rw [sm0_go]
    refine ⟨fun hc => ?_, fun hc => ?_⟩
    · simp [hl] at hc
      have hc' : j < (o.to Int).length := by omega
      obtain ⟨c1, c2, c3⟩ := int_at hd hc
      obtain ⟨d1, d2, d3⟩ := int_at ho hc'
      rw [c3, d3]
      refine fun _ => ⟨c1, c2, d1, d2, fun hx => ret_lb ?_, fun hx => ?_⟩
      · simp only [bne_iff_ne, ne_eq] at hx
        simp [ne_of_take32 hc hc' hx]
      · simp only [bne_eq_false_iff_eq] at hx
        have := ih (j + 1) ⟨hc, (take_eq32 hc hc').2 ⟨hpre, hx⟩⟩ (by omega)
        rw [← wrap_succ hc (by omega)] at this
        exact this
    · simp [hl] at hc
      refine ret_lb ?_
      rw [List.take_of_length_le (by omega), List.take_of_length_le (by omega)] at hpre
      simp [hpre]

end Go.Proofs.Ytllmgnhjljmihaa
end
section
open Go Go.Proofs Sx
namespace Sx
theorem number_row {n : Int} : SRows Int [[.int .i64 n]] [n] := rows_one (ok_int n) rfl
end Sx
namespace Go.Proofs.Ytllmgnhjljmihaa
set_option maxRecDepth 100000
theorem lawBehR : Law Try.prog 68 ((rdD.two rdInt).sp spBeh) := by
  refine law_in _ (by kernel_rfl) fun H w ⟨k, n⟩ hok hp => ?_
  obtain ⟨hk, hlen, hcs⟩ := hp _ (List.mem_singleton.2 rfl)
  simp only at hk hlen hcs
  have kl := D.Is.length (α := Cy) k
  apply exec_sound ctBgROk 400
  rw [show (rdD.two rdInt).canon (k, n) = [.dat k, .int .i64 n] from rfl, rbh_in]
  refine vecIn_to 9 65 5 none 5 (rbL k n (.slc none 5 []) 0) (by kernel_rfl) ?_
  refine runs_loop (fun p : D × Nat => rbL k n p.1 p.2) (fun p => p.2 ≤ (k.to Cy).length ∧ p.1.Is Cy ∧ p.1.sz = 5 ∧ p.1.to Cy = behindL ((k.to Cy).take p.2) n) (fun p => (k.to Cy).length - p.2) (fun _ => rfl) ?_ (.slc none 5 [], 0) ⟨Nat.zero_le _, is_nil _ _, rfl, rfl⟩
  intro ⟨q, j⟩ ⟨hj, hq, hz, hto⟩ ih
  simp only at hj hq hz hto ih
  have ql := D.Is.length (α := Cy) q
  have hfl : (behindL ((k.to Cy).take j) n).length ≤ j := by
    refine Nat.le_trans (List.length_filter_le _ _) ?_
    rw [List.length_take]; omega
  rw [hto] at ql
  apply exec_sound ctBgROk 400
  rw [rbL_go]
  refine ⟨fun hcj => ?_, fun hcj => ?_⟩
  · have hcj : j < (k.to Cy).length := by have := of_decide_eq_true hcj; omega
    obtain ⟨c1, c2, c3, c4⟩ := cy_cell hk hcj
    have hn : (k.to Cy)[j].number = k.getInt j 1 := by rw [c4]; rfl
    have htk : (k.to Cy).take (j + 1) = (k.to Cy).take j ++ [(k.to Cy)[j]] := List.take_succ_eq_append_getElem hcj
    have c0 : 0 ≤ (j : Int) ∧ (j : Int) < (k.len : Int) ∧ k.sz = 5 := ⟨by omega, by omega, hk.size hcj⟩
    refine ⟨c0, c1.2.1, fun hb => ⟨c0, c1, cyD_ok hk hcs hcj, fun hs hs1 => ⟨⟨hz, .inr rfl, by simp only [len_slc, List.length_cons, List.length_nil]; omega, by simp only [len_slc, List.length_cons, List.length_nil]; omega⟩, fun hs2 => ?_⟩⟩, fun hb => ?_⟩
    · have hb : k.getInt j 1 > n := of_decide_eq_true hb
      have hr := rows_app (rows_of hq) (cy_one (b := k.getInt j 0) (n := k.getInt j 1) (t := k.getInt j 2) (D.like_is (hs 0 0) ((k.cell j 3).to Int)) (D.like_to _ _) (D.like_is (hs 0 1) ((k.cell j 4).to Wt)) (D.like_to _ _))
      obtain ⟨i1, i2⟩ := is_of (h := (hs2 0 0).hd) (s := 5) rfl hr
      have := ih (_, j + 1) ⟨hcj, i1, rfl, i2.trans ?_⟩ (by simp only; omega)
      · simp only at this
        rw [← wrap_succ hcj (by omega)] at this
        exact this
      · simp only
        rw [htk, behindL_snoc, if_pos (by rw [hn]; exact hb), hto, c4]; rfl
    · have hb : ¬k.getInt j 1 > n := of_decide_eq_false hb
      have := ih (q, j + 1) ⟨hcj, hq, hz, ?_⟩ (by simp only; omega)
      · simp only at this
        rw [← wrap_succ hcj (by omega)] at this
        exact this
      · simp only
        rw [htk, behindL_snoc, if_neg (by rw [hn]; exact hb), hto]
  · have : j = (k.to Cy).length := by have := of_decide_eq_false hcj; omega
    subst this
    rw [List.take_length] at hto
    obtain ⟨d, h⟩ := (stands_dat hq hto).se
    exact ret_se (fun _ => d) h
theorem ctRsROk : Ctrs.Ok Try.prog ctRsR := by
  intro x hx
  simp only [ctRsR, List.mem_cons, List.not_mem_nil, or_false] at hx
  rcases hx with rfl | rfl
  · exact ctrOf_ok lawCkRf
  · exact ctrOf_ok lawBehR
theorem ctSmOk : Ctrs.Ok Try.prog ctSm := by
  intro x hx
  simp only [ctSm, List.mem_cons, List.not_mem_nil, or_false] at hx
  rcases hx with rfl | rfl | rfl | rfl
  · exact ctrOf_ok lawInts
  · exact ctrOf_ok lawSameC
  · exact ctrOf_ok lawSame32
  · exact ctrOf_ok lawFewC
theorem rr_loop {H : HV} {w : World} {d : D} {ep a2 a3 a4 b2 na : Int} {r : Rl × Int} (hd : d.Is Cy) (hl : d.len ≤ 1048576)
    (hr : r = (⟨⟨ep, a2, a3, a4⟩, ⟨ep, b2, na, na⟩, ⟨ep, b2, (d.to Cy).map Cy.number, na, na⟩, d.to Cy⟩, 0)) :
    Runs Try.prog ⟨w, H⟩ (rrL d ep a2 a3 a4 b2 na (.slc none 1 []) 0) (RetD w H fun ds => .tup [.agg (rlL (ds 0) (ds 1) r.1), .int .i64 r.2]) := by
  have dl := D.Is.length (α := Cy) d
  refine runs_loop (fun p : D × Nat => rrL d ep a2 a3 a4 b2 na p.1 p.2) (fun p => p.2 ≤ (d.to Cy).length ∧ p.1.Is Int ∧ p.1.sz = 1 ∧ p.1.to Int = ((d.to Cy).take p.2).map Cy.number) (fun p => (d.to Cy).length - p.2) (fun _ => rfl) ?_ (.slc none 1 [], 0) ⟨Nat.zero_le _, is_nil _ _, rfl, rfl⟩
  intro ⟨q, j⟩ ⟨hj, hq, hz, hto⟩ ih
  simp only at hj hq hz hto ih
  have ql := D.Is.length (α := Int) q
  rw [hto, List.length_map, List.length_take] at ql
  apply exec_sound (noCtr _) 400
  rw [rrL_go]
  refine ⟨fun hcj hs => ?_, fun hcj => ?_⟩
  · have hcj : j < (d.to Cy).length := by have := of_decide_eq_true hcj; omega
    obtain ⟨c1, c2, c3, c4⟩ := cy_cell hd hcj
    refine ⟨⟨by omega, by omega, hd.size hcj⟩, c1.2.1, ⟨hz, .inr rfl, by simp only [len_slc, List.length_cons, List.length_nil]; omega, by simp only [len_slc, List.length_cons, List.length_nil]; omega⟩, ?_⟩
    obtain ⟨i1, i2⟩ := is_of (h := (hs 9 0).hd) (s := 1) rfl (rows_app (rows_of hq) (number_row (n := d.getInt j 1)))
    have := ih (_, j + 1) ⟨hcj, i1, rfl, i2.trans ?_⟩ (by simp only; omega)
    · simp only at this
      rw [← wrap_succ hcj (by omega)] at this
      exact this
    · simp only
      rw [List.take_succ_eq_append_getElem hcj, List.map_append, hto, c4]; rfl
  · have : j = (d.to Cy).length := by have := of_decide_eq_false hcj; omega
    subst this
    rw [List.take_length] at hto
    exact ret_rl (stands_dat hq hto) (stands_dat hd rfl) hr
theorem lawRstR : Law Try.prog 22 ((rdRl.three rdInt rdInt).sp spRestartRl) := by
  refine law_in _ (by kernel_rfl) fun H w ⟨⟨⟨a1, a2, a3, a4⟩, ⟨b1, b2, b3, b4⟩, ⟨e, s, o, st, ap⟩, k⟩, ep, na⟩ hok hp => ?_
  have hx := hp _ (List.mem_singleton.2 rfl)
  apply exec_sound ctRsROk 400
  rw [show (rdRl.three rdInt rdInt).canon (⟨⟨a1, a2, a3, a4⟩, ⟨b1, b2, b3, b4⟩, ⟨e, s, o, st, ap⟩, k⟩, ep, na) = [.agg [.int .i64 a1, .int .i64 a2, .int .i64 a3, .int .i64 a4, .int .i64 b1, .int .i64 b2, .int .i64 b3, .int .i64 b4, .int .i64 e, .int .i64 s, .dat o, .int .i64 st, .int .i64 ap, .dat k], .int .i64 ep, .int .i64 na] from rfl, rstR_in]
  show Tree.holds _ _ (RetD w H fun ds => .tup [.agg (rlL (ds 0) (ds 1) (restartRl (RlD.rl ⟨⟨a1, a2, a3, a4⟩, ⟨b1, b2, b3, b4⟩, ⟨e, s, o, st, ap⟩, k⟩) ep na).1), .int .i64 (restartRl (RlD.rl ⟨⟨a1, a2, a3, a4⟩, ⟨b1, b2, b3, b4⟩, ⟨e, s, o, st, ap⟩, k⟩) ep na).2]) _
  generalize hxx : (RlD.mk ⟨a1, a2, a3, a4⟩ ⟨b1, b2, b3, b4⟩ ⟨e, s, o, st, ap⟩ k) = x at *
  have x1 : x.rl.near.epoch = a1 := by rw [← hxx]; rfl
  have x4 : x.rl.near.applied = a4 := by rw [← hxx]; rfl
  refine ⟨hx, fun c1 => rst_bad ?_, fun c1 => ⟨fun c2 => rst_bad ?_, fun c2 => ⟨fun c3 => rst_bad ?_, fun c3 => ⟨fun c4 => rst_bad ?_, fun c4 => ⟨fun c5 => rst_bad ?_, fun c5 => ?_⟩⟩⟩⟩⟩
  · have c1 : ckRl x.rl ≠ 0 := by simpa using c1
    unfold restartRl; rw [if_pos c1]
  all_goals (have c1' : ¬ckRl x.rl ≠ 0 := by simpa using c1)
  · have c2 : ep < a1 := of_decide_eq_true c2
    unfold restartRl; rw [if_neg c1', if_pos (by rw [x1]; exact c2)]
  all_goals (have c2' : ¬ep < x.rl.near.epoch := by rw [x1]; exact of_decide_eq_false c2)
  · unfold restartRl; rw [if_neg c1', if_neg c2', if_pos (.inl (of_decide_eq_true c3))]
  · unfold restartRl; rw [if_neg c1', if_neg c2', if_pos (.inr (.inl (of_decide_eq_true c4)))]
  · unfold restartRl; rw [if_neg c1', if_neg c2', if_pos (.inr (.inr (by rw [x4]; exact of_decide_eq_true c5)))]
  have c1 : ckRl x.rl = 0 := by simpa using c1'
  have c345 : ¬(ep > 1073741824 ∨ na < 0 ∨ na > x.rl.near.applied) := by
    have := of_decide_eq_false c3; have := of_decide_eq_false c4; have := of_decide_eq_false c5
    rw [x4]; omega
  obtain ⟨_, _, hcs, hf⟩ := ck_range c1
  obtain ⟨f1, f2, f3, f4⟩ := formed_leads hf
  have f5 := src_asc hcs
  rw [← f3] at f5
  have hre : restartRl x.rl ep na = if (leadsI (behindL (x.k.to Cy) na) na).2 = false ∨ (leadsI (behindL (x.k.to Cy) na) na).1 ≠ a4 then (zRl, 15)
      else (⟨⟨ep, a2, a3, a4⟩, ⟨ep, b2, na, na⟩, ⟨ep, b2, (behindL (x.k.to Cy) na).map Cy.number, na, na⟩, behindL (x.k.to Cy) na⟩, 0) := by
    unfold restartRl; rw [if_neg c1', if_neg c2', if_neg c345]
    rw [f4, ← hxx]; rfl
  rw [hre]
  rw [x4] at f2 c345
  have f1 : (leadsI (x.k.to Cy) x.rl.src.applied).2 = true := f1
  have f2 : (leadsI (x.k.to Cy) x.rl.src.applied).1 ≤ a4 := f2
  have f5 : asc32 x.rl.src.applied ((x.k.to Cy).map Cy.number) = true := f5
  obtain ⟨h1, h2, h3, h4, h5⟩ := id hx
  have ek : x.k = k := by rw [← hxx]
  rw [ek] at h2 h4 h5 f1 f2 f5 ⊢
  clear hxx hre x1 x4
  have kl := D.Is.length (α := Cy) k
  have hBl : (behindL (k.to Cy) na).length ≤ 1048576 := Nat.le_trans (List.length_filter_le _ _) (by omega)
  refine ⟨⟨h2, h4, fun c hc => h5 c hc⟩, fun hs hs1 => ?_⟩
  have hB := D.like_is (hs 0 0) (behindL (k.to Cy) na)
  have hBto := D.like_to (hs 0 0) (behindL (k.to Cy) na)
  generalize D.like (hs 0 0) (behindL (k.to Cy) na) = B at hB hBto ⊢
  rw [← hBto] at hBl ⊢
  have Bl := D.Is.length (α := Cy) B
  refine ⟨fun d1 => ?_, fun d1 => ?_⟩
  · have d1' : na < a4 := of_decide_eq_true d1
    refine ⟨fun d2 => ?_, fun d2 => ⟨fun d3 => ?_, fun d3 => ?_⟩⟩
    · repeat refine holds_need.2 ⟨by assumption, ?_⟩
      have d2 : B.to Cy = [] := List.eq_nil_of_length_eq_zero (by have := of_decide_eq_true d2; omega)
      refine rst_bad ?_
      rw [d2, if_pos (.inr (by show na ≠ a4; omega))]
    all_goals
      have d2' : 0 < (B.to Cy).length := by have := of_decide_eq_false d2; omega
      obtain ⟨q1, _, _, q4⟩ := cy_cell hB d2'
      have eb : B.getInt 0 0 = ((B.to Cy)[0]).base := by rw [q4]; rfl
      have n1 : (0 : Int) ≤ 0 ∧ 0 < (B.len : Int) ∧ B.sz = 5 := ⟨by omega, by omega, hB.size d2'⟩
      have n2 : B.HasCell 0 0 (.int .i64) := q1.1
    · repeat refine holds_need.2 ⟨by assumption, ?_⟩
      have d3 : ((B.to Cy)[0]).base > na := by rw [← eb]; exact of_decide_eq_true d3
      refine rst_bad ?_
      rw [if_pos (.inl (beh_B d2' d3))]
    · have d3' : ¬((B.to Cy)[0]).base > na := by rw [← eb]; exact of_decide_eq_false d3
      have hlt : (B.to Cy).length - 1 < (B.to Cy).length := by omega
      have ew : IntKind.i64.wrap ((B.len : Int) - 1) = (((B.to Cy).length - 1 : Nat) : Int) := by rw [wrap64 (by omega) (by omega)]; omega
      obtain ⟨r1, _, _, r4⟩ := cy_cell hB hlt
      have n3 : 0 ≤ IntKind.i64.wrap ((B.len : Int) - 1) ∧ IntKind.i64.wrap ((B.len : Int) - 1) < (B.len : Int) ∧ B.sz = 5 := ⟨by omega, by omega, hB.size d2'⟩
      have n4 : B.HasCell (Int.toNat (IntKind.i64.wrap ((B.len : Int) - 1))) 1 (.int .i64) := by rw [ew]; exact r1.2.1
      repeat refine holds_need.2 ⟨by assumption, ?_⟩
      have el : B.getInt (Int.toNat (IntKind.i64.wrap ((B.len : Int) - 1))) 1 = ((B.to Cy)[(B.to Cy).length - 1]).number := by rw [ew, Int.toNat_natCast, r4]; rfl
      have hC := beh_C f1 f5 hBto.symm d2' d3'
      rw [el, hC]
      refine ⟨fun d4 => rst_bad ?_, fun d4 => ?_⟩
      · have d4 : ((B.to Cy)[(B.to Cy).length - 1]).number ≠ a4 := by simpa using d4
        rw [if_pos (.inr d4)]
      · have d4 : ((B.to Cy)[(B.to Cy).length - 1]).number = a4 := by simpa using d4
        exact vecIn_to 9 3 1 (some 1) 10 (rrL B ep a2 a3 a4 b2 na (.slc none 1 []) 0) (by kernel_rfl) (rr_loop hB (by omega) (by rw [if_neg (by rw [d4]; simp)]))
  · have d1' : ¬na < a4 := of_decide_eq_false d1
    repeat refine holds_need.2 ⟨by assumption, ?_⟩
    have hD := beh_D f1 f2 f5 d1'
    rw [← hBto] at hD
    exact vecIn_to 9 3 1 (some 1) 10 (rrL B ep a2 a3 a4 b2 na (.slc none 1 []) 0) (by kernel_rfl) (rr_loop hB (by omega) (by rw [if_neg (by rw [hD]; show ¬(true = false ∨ na ≠ a4); rintro (h | h); cases h; omega)]))
theorem rl_ne {x y : RlD} (h : x.rl ≠ y.rl) : false = decide (x.rl = y.rl) := by rw [decide_eq_false h]
theorem lawSmR : Law Try.prog 16 ((rdRl.two rdRl).sp spSameRl) := by
  refine law_in _ (by kernel_rfl) fun H w ⟨⟨⟨a1, a2, a3, a4⟩, ⟨b1, b2, b3, b4⟩, ⟨e, s, o, st, ap⟩, k⟩, ⟨⟨a1', a2', a3', a4'⟩, ⟨b1', b2', b3', b4'⟩, ⟨e', s', o', st', ap'⟩, k'⟩⟩ hok hp => ?_
  obtain ⟨hx, hy⟩ := hp _ (List.mem_singleton.2 rfl)
  obtain ⟨h1, h2, h3, h4, h5⟩ := id hx
  obtain ⟨g1, g2, g3, g4, g5⟩ := id hy
  simp only at h1 h2 h3 h4 h5 g1 g2 g3 g4 g5
  have kl := D.Is.length (α := Cy) k
  have kl' := D.Is.length (α := Cy) k'
  apply exec_sound ctSmOk 400
  rw [show (rdRl.two rdRl).canon (⟨⟨a1, a2, a3, a4⟩, ⟨b1, b2, b3, b4⟩, ⟨e, s, o, st, ap⟩, k⟩, ⟨⟨a1', a2', a3', a4'⟩, ⟨b1', b2', b3', b4'⟩, ⟨e', s', o', st', ap'⟩, k'⟩) = [.agg [.int .i64 a1, .int .i64 a2, .int .i64 a3, .int .i64 a4, .int .i64 b1, .int .i64 b2, .int .i64 b3, .int .i64 b4, .int .i64 e, .int .i64 s, .dat o, .int .i64 st, .int .i64 ap, .dat k], .agg [.int .i64 a1', .int .i64 a2', .int .i64 a3', .int .i64 a4', .int .i64 b1', .int .i64 b2', .int .i64 b3', .int .i64 b4', .int .i64 e', .int .i64 s', .dat o', .int .i64 st', .int .i64 ap', .dat k']] from rfl, smR_in]
  refine ⟨fun c1 => ret_lb (rl_ne fun he => ?_), fun c1 => ⟨⟨h1, g1, h3⟩, fun c2 => ret_lb (rl_ne fun he => ?_), fun c2 => ?_⟩⟩
  · have c1 : (k.len : Int) ≠ (k'.len : Int) := by simpa using c1
    have : k.to Cy = k'.to Cy := congrArg Rl.kept he
    rw [kl, kl', this] at c1; exact c1 rfl
  · have c2 : ¬(o.to Int = o'.to Int) := by simpa using c2
    exact c2 (congrArg (fun r => r.src.offered) he)
  have c1 : (k.to Cy).length = (k'.to Cy).length := by
    have : (k.len : Int) = (k'.len : Int) := by simpa using c1
    omega
  have c2 : o.to Int = o'.to Int := by simpa using c2
  show Runs Try.prog ⟨w, H⟩ (smRL ⟨⟨a1, a2, a3, a4⟩, ⟨b1, b2, b3, b4⟩, ⟨e, s, o, st, ap⟩, k⟩ ⟨⟨a1', a2', a3', a4'⟩, ⟨b1', b2', b3', b4'⟩, ⟨e', s', o', st', ap'⟩, k'⟩ ((0 : Nat) : Int)) _
  refine runs_loop (fun j : Nat => smRL ⟨⟨a1, a2, a3, a4⟩, ⟨b1, b2, b3, b4⟩, ⟨e, s, o, st, ap⟩, k⟩ ⟨⟨a1', a2', a3', a4'⟩, ⟨b1', b2', b3', b4'⟩, ⟨e', s', o', st', ap'⟩, k'⟩ (j : Int)) (fun j => j ≤ (k.to Cy).length ∧ (k.to Cy).take j = (k'.to Cy).take j) (fun j => (k.to Cy).length - j) (fun _ => rfl) ?_ 0 ⟨Nat.zero_le _, rfl⟩
  intro j ⟨hj, hpre⟩ ih
  apply exec_sound ctSmOk 400
  rw [smRL_go]
  refine ⟨fun hc hs => ?_, fun hc => ?_⟩
  · have hc : j < (k.to Cy).length := by have := of_decide_eq_true hc; omega
    have hc' : j < (k'.to Cy).length := c1 ▸ hc
    obtain ⟨q1, _, _, q4⟩ := cy_cell h2 hc
    obtain ⟨r1, _, _, r4⟩ := cy_cell g2 hc'
    refine ⟨⟨by omega, by omega, h2.size hc⟩, q1, ⟨by omega, by omega, g2.size hc'⟩, r1, ⟨cyD_ok h2 h5 hc, cyD_ok g2 g5 hc'⟩, fun d1 => ret_lb (rl_ne fun he => ?_), fun d1 => ?_⟩
    · have d1 : ¬((k.to Cy)[j] = (k'.to Cy)[j]) := by rw [q4, r4]; simpa using d1
      have : k.to Cy = k'.to Cy := congrArg Rl.kept he
      exact d1 (by simp only [this])
    · have d1 : (k.to Cy)[j] = (k'.to Cy)[j] := by rw [q4, r4]; simpa using d1
      have := ih (j + 1) ⟨hc, take_succ_eq hc hc' hpre d1⟩ (by omega)
      rw [← wrap_succ hc (by omega)] at this
      exact this
  · have : j = (k.to Cy).length := by have := of_decide_eq_false hc; omega
    subst this
    have hk : k.to Cy = k'.to Cy := list_eq_of c1 rfl hpre
    refine ⟨fun d1 => ⟨fun d2 => ⟨⟨h1, g1, h3⟩, ret_bool ?_⟩, fun d2 => ret_lb (rl_ne fun he => ?_)⟩, fun d1 => ret_lb (rl_ne fun he => ?_)⟩
    · simp only [Bool.and_true, Bool.and_eq_true, decide_eq_true_eq] at d1 d2
      obtain ⟨rfl, rfl, rfl, rfl⟩ := d1
      obtain ⟨rfl, rfl, rfl, rfl⟩ := d2
      by_cases h : SrcD.src ⟨e, s, o, st, ap⟩ = SrcD.src ⟨e', s', o', st', ap'⟩
      · rw [decide_eq_true h, decide_eq_true]
        simp only [RlD.rl, h, hk]
      · rw [decide_eq_false h, decide_eq_false]
        exact fun he => h (congrArg Rl.src he)
    · have h : (Rl.far (RlD.rl ⟨⟨a1, a2, a3, a4⟩, ⟨b1, b2, b3, b4⟩, ⟨e, s, o, st, ap⟩, k⟩)) = Rl.far (RlD.rl ⟨⟨a1', a2', a3', a4'⟩, ⟨b1', b2', b3', b4'⟩, ⟨e', s', o', st', ap'⟩, k'⟩) := congrArg Rl.far he
      simp only [RlD.rl, Tgt.mk.injEq] at h
      simp [h] at d2
    · have h : (Rl.near (RlD.rl ⟨⟨a1, a2, a3, a4⟩, ⟨b1, b2, b3, b4⟩, ⟨e, s, o, st, ap⟩, k⟩)) = Rl.near (RlD.rl ⟨⟨a1', a2', a3', a4'⟩, ⟨b1', b2', b3', b4'⟩, ⟨e', s', o', st', ap'⟩, k'⟩) := congrArg Rl.near he
      simp only [RlD.rl, Tgt.mk.injEq] at h
      simp [h] at d1
theorem all_snoc (f : Cy → Bool) (l : List Cy) (c : Cy) : (l ++ [c]).all f = (l.all f && f c) := by simp
theorem lawFwR : Law Try.prog 12 (rdRl.one.sp spFewRl) := by
  refine law_in _ (by kernel_rfl) fun H w ⟨⟨a1, a2, a3, a4⟩, ⟨b1, b2, b3, b4⟩, ⟨e, s, o, st, ap⟩, k⟩ hok hp => ?_
  obtain ⟨h1, h2⟩ := hp _ (List.mem_singleton.2 rfl)
  simp only at h1 h2
  have kl := D.Is.length (α := Cy) k
  apply exec_sound ctSmOk 400
  rw [show rdRl.one.canon ⟨⟨a1, a2, a3, a4⟩, ⟨b1, b2, b3, b4⟩, ⟨e, s, o, st, ap⟩, k⟩ = [.agg [.int .i64 a1, .int .i64 a2, .int .i64 a3, .int .i64 a4, .int .i64 b1, .int .i64 b2, .int .i64 b3, .int .i64 b4, .int .i64 e, .int .i64 s, .dat o, .int .i64 st, .int .i64 ap, .dat k]] from rfl, fwR_in]
  refine ⟨fun c1 => ret_lb ?_, fun c1 => ⟨fun c2 => ret_lb ?_, fun c2 => ?_⟩⟩
  · have c1 := of_decide_eq_true c1
    rw [decide_eq_false (show ¬o.len ≤ 40 by omega)]; rfl
  · have c2 := of_decide_eq_true c2
    rw [decide_eq_false (show ¬k.len ≤ 40 by omega), Bool.and_false]; rfl
  have c1 := of_decide_eq_false c1
  have c2 := of_decide_eq_false c2
  rw [decide_eq_true (show o.len ≤ 40 by omega), decide_eq_true (show k.len ≤ 40 by omega), Bool.true_and, Bool.true_and]
  show Runs Try.prog ⟨w, H⟩ (fwRL ⟨⟨a1, a2, a3, a4⟩, ⟨b1, b2, b3, b4⟩, ⟨e, s, o, st, ap⟩, k⟩ ((0 : Nat) : Int)) _
  refine runs_loop (fun j : Nat => fwRL ⟨⟨a1, a2, a3, a4⟩, ⟨b1, b2, b3, b4⟩, ⟨e, s, o, st, ap⟩, k⟩ (j : Int)) (fun j => j ≤ (k.to Cy).length ∧ ((k.to Cy).take j).all fewC = true) (fun j => (k.to Cy).length - j) (fun _ => rfl) ?_ 0 ⟨Nat.zero_le _, rfl⟩
  intro j ⟨hj, hpre⟩ ih
  apply exec_sound ctSmOk 400
  rw [fwRL_go]
  refine ⟨fun hc => ?_, fun hc => ret_lb ?_⟩
  · have hc : j < (k.to Cy).length := by have := of_decide_eq_true hc; omega
    obtain ⟨q1, q2, q3, q4⟩ := cy_cell h2 hc
    refine ⟨⟨by omega, by omega, h2.size hc⟩, q1, ⟨q2, q3⟩, fun d1 => ret_lb ?_, fun d1 => ?_⟩
    · have d1 : fewC (k.to Cy)[j] = false := by rw [q4]; simpa using d1
      cases h : (k.to Cy).all fewC with
      | false => rfl
      | true => rw [List.all_eq_true.1 h _ (List.getElem_mem hc)] at d1; cases d1
    · have d1 : fewC (k.to Cy)[j] = true := by rw [q4]; simpa using d1
      have := ih (j + 1) ⟨hc, by rw [List.take_succ_eq_append_getElem hc, all_snoc, hpre, d1]; rfl⟩ (by omega)
      rw [← wrap_succ hc (by omega)] at this
      exact this
  · have : j = (k.to Cy).length := by have := of_decide_eq_false hc; omega
    subst this
    rw [List.take_length] at hpre
    exact hpre.symm
end Go.Proofs.Ytllmgnhjljmihaa
end
section
open Go
namespace Sx
def RlB (r : Rl) : Prop := r.src.offered.length ≤ 1048576 ∧ r.kept.length ≤ 1048576 ∧ ∀ c, c ∈ r.kept → CyOk c
theorem likeRl_ok {r : Rl} {o k : D} (h : RlB r) : RlD.Ok ⟨⟨r.near.epoch, r.near.site, r.near.stored, r.near.applied⟩, ⟨r.far.epoch, r.far.site, r.far.stored, r.far.applied⟩, ⟨r.src.epoch, r.src.site, o.like r.src.offered, r.src.stored, r.src.applied⟩, k.like r.kept⟩ :=
  ⟨D.like_is _ _, D.like_is _ _, by simp only; rw [D.Is.length (α := Int), D.like_to]; exact h.1, by simp only; rw [D.Is.length (α := Cy), D.like_to]; exact h.2.1, fun c hc => h.2.2 c (by simpa only [D.like_to] using hc)⟩
theorem likeRl_rl {r : Rl} {o k : D} : RlD.rl ⟨⟨r.near.epoch, r.near.site, r.near.stored, r.near.applied⟩, ⟨r.far.epoch, r.far.site, r.far.stored, r.far.applied⟩, ⟨r.src.epoch, r.src.site, o.like r.src.offered, r.src.stored, r.src.applied⟩, k.like r.kept⟩ = r := by
  simp only [RlD.rl, SrcD.src, D.like_to]
theorem same_rl {r : Rl} {o k o' k' : D} (h : RlB r) : RlD.Ok ⟨⟨r.near.epoch, r.near.site, r.near.stored, r.near.applied⟩, ⟨r.far.epoch, r.far.site, r.far.stored, r.far.applied⟩, ⟨r.src.epoch, r.src.site, o.like r.src.offered, r.src.stored, r.src.applied⟩, k.like r.kept⟩ ∧
    RlD.Ok ⟨⟨r.near.epoch, r.near.site, r.near.stored, r.near.applied⟩, ⟨r.far.epoch, r.far.site, r.far.stored, r.far.applied⟩, ⟨r.src.epoch, r.src.site, o'.like r.src.offered, r.src.stored, r.src.applied⟩, k'.like r.kept⟩ ∧
    RlD.rl ⟨⟨r.near.epoch, r.near.site, r.near.stored, r.near.applied⟩, ⟨r.far.epoch, r.far.site, r.far.stored, r.far.applied⟩, ⟨r.src.epoch, r.src.site, o.like r.src.offered, r.src.stored, r.src.applied⟩, k.like r.kept⟩ =
    RlD.rl ⟨⟨r.near.epoch, r.near.site, r.near.stored, r.near.applied⟩, ⟨r.far.epoch, r.far.site, r.far.stored, r.far.applied⟩, ⟨r.src.epoch, r.src.site, o'.like r.src.offered, r.src.stored, r.src.applied⟩, k'.like r.kept⟩ :=
  ⟨likeRl_ok h, likeRl_ok h, by rw [likeRl_rl, likeRl_rl]⟩
theorem zRl_b : RlB zRl := ⟨by simp [zRl, zSrc], by simp [zRl], by simp [zRl]⟩
theorem newRl_b (a b c d : Int) : RlB (newRl a b c d).1 := by
  unfold newRl
  repeat' split
  · exact zRl_b
  · exact zRl_b
  · exact zRl_b
  · refine ⟨?_, by simp, by simp⟩
    unfold newSource; split <;> simp
theorem fewW_ok {l : List Wt} (h : fewW l = true) : l.length ≤ 40 ∧ ∀ w, w ∈ l → w.data.length ≤ 24 := by
  unfold fewW at h
  simp only [Bool.and_eq_true, Bool.not_eq_true', decide_eq_true_eq] at h
  obtain ⟨h1, h2⟩ := h
  refine ⟨h2, fun w hw => ?_⟩
  rw [List.take_of_length_le (by omega)] at h1
  have := List.any_eq_false.1 h1 w hw
  simp only [decide_eq_true_eq] at this
  omega
theorem fewC_ok {c : Cy} (h : fewC c = true) : CyOk c := by
  unfold fewC at h
  simp only [Bool.and_eq_true, decide_eq_true_eq] at h
  obtain ⟨a, b⟩ := fewW_ok h.2
  exact ⟨by omega, by omega, fun w hw => by have := b w hw; omega⟩
theorem fewRl_ok {x : RlD} (h1 : x.src.d.Is Int) (h2 : x.k.Is Cy) (h : (decide (x.src.d.len ≤ 40) && decide (x.k.len ≤ 40) && (x.k.to Cy).all fewC) = true) : x.Ok := by
  simp only [Bool.and_eq_true, decide_eq_true_eq, List.all_eq_true] at h
  obtain ⟨⟨a, b⟩, c⟩ := h
  exact ⟨h1, h2, by omega, by omega, fun y hy => fewC_ok (c y hy)⟩
def spSameRS (x : RlD × RlD) : SpecR := .scalar [x.1.Ok ∧ x.2.Ok ∧ x.1.rl = x.2.rl] (.lb true)
end Sx
end
section
open Go Go.Proofs Sx
namespace Go.Proofs.Ytllmgnhjljmihaa
set_option maxRecDepth 100000
set_option maxHeartbeats 0
theorem lawAwk : Law Try.prog 13 (rdNone.sp spTrue) := by
  refine law_in _ (by kernel_rfl) fun H w _ hok hp => ?_
  refine dec_sound ctTYOk (fun _ => true) 900 (entry Try.prog 13 []) awake_in ?_
  refine fun _ _ _ _ hs _ hs2 hs3 _ => ⟨⟨Int.le_refl _, Int.zero_lt_one, rfl⟩, ⟨_, rfl⟩, ⟨Int.le_refl _, Int.zero_lt_one, rfl⟩, ⟨_, rfl⟩, ⟨Int.le_refl _, Int.zero_lt_one, rfl⟩, ⟨_, rfl⟩, fun _ => ⟨⟨allInt_is rfl, allInt_is rfl, Nat.le_of_ble_eq_true rfl, rfl⟩, ret_lbt⟩⟩
theorem lawSmS : Law Try.prog 16 ((rdRl.two rdRl).sp spSameRS) :=
  law_sure lawSmR fun b => ⟨_, _, _, rfl, rfl, fun hp => by
    obtain ⟨h1, h2, h3⟩ := hp _ (List.mem_singleton.2 rfl)
    exact ⟨fun p hp' => by rw [List.mem_singleton.1 hp']; exact ⟨h1, h2⟩, decide_eq_true h3⟩⟩
end Go.Proofs.Ytllmgnhjljmihaa
end
section
open Go Go.Proofs Sx
namespace Go.Proofs.Ytllmgnhjljmihaa
set_option maxRecDepth 100000
set_option maxHeartbeats 0
noncomputable def ctL : Ctrs := [(12, ctrOf (rdRl.one.sp spFewRl)), (13, ctrOf (rdNone.sp spTrue)), (16, ctrOf ((rdRl.two rdRl).sp spSameRS)), (14, ctrOf (rdQuad.sp spNewRl)), (15, ctrOf (rdQuad.sp spNewRl)),
 (17, ctrOf (rdRl.one.sp spCkRl)), (18, ctrOf (rdRl.one.sp spCkRl)), (19, ctrOf (rdRl.one.sp spLagRl)), (20, ctrOf (rdRl.one.sp spLagRl)), (21, ctrOf ((rdRl.three rdInt rdInt).sp spRestartRl)), (22, ctrOf ((rdRl.three rdInt rdInt).sp spRestartRl))]
section
variable (o k : D) (i1 i2 i3 i4 a1 a2 a3 a4 b1 b2 b3 b4 e s st ap ep na : Int)
theorem cmk_in : 
 let z1 := (RlD.mk (Tgt.mk a1 a2 a3 a4) (Tgt.mk b1 b2 b3 b4) (SrcD.mk e s o st ap) k)
 let z2 := (Tgt.mk (Tgt.epoch (Rl.near (Prod.fst (newRl i1 i2 i3 i4)))) (Tgt.site (Rl.near (Prod.fst (newRl i1 i2 i3 i4)))) (Tgt.stored (Rl.near (Prod.fst (newRl i1 i2 i3 i4)))) (Tgt.applied (Rl.near (Prod.fst (newRl i1 i2 i3 i4)))))
 let z3 := (Tgt.mk (Tgt.epoch (Rl.far (Prod.fst (newRl i1 i2 i3 i4)))) (Tgt.site (Rl.far (Prod.fst (newRl i1 i2 i3 i4)))) (Tgt.stored (Rl.far (Prod.fst (newRl i1 i2 i3 i4)))) (Tgt.applied (Rl.far (Prod.fst (newRl i1 i2 i3 i4)))))
 exec Try.prog ctL 400 (entry Try.prog 4 [.agg [.int .i64 i1, .int .i64 i2, .int .i64 i3, .int .i64 i4], .agg [.int .i64 a1, .int .i64 a2, .int .i64 a3, .int .i64 a4, .int .i64 b1, .int .i64 b2, .int .i64 b3, .int .i64 b4, .int .i64 e, .int .i64 s, .dat o, .int .i64 st, .int .i64 ap, .dat k]]) =
 Tree.need (D.Is Int o ∧ D.Is Cy k) (.br (!(decide (D.len o ≤ 40) && decide (D.len k ≤ 40) && List.all (D.to Cy k) fewC)) (.ret (.lb true)) (.need ((0 : Int) ≤ 0 ∧ 0 < (↑4 : Int)) (.need ((0 : Int) ≤ 1 ∧ 1 <
 (↑4 : Int)) (.need ((0 : Int) ≤ 2 ∧ 2 < (↑4 : Int)) (.need ((0 : Int) ≤ 3 ∧ 3 < (↑4 : Int)) (.all fun hs => .need ((0 : Int) ≤ 0 ∧ 0 < (↑4 : Int)) (.need ((0 : Int) ≤ 1 ∧ 1 < (↑4 : Int)) (.need ((0 : Int) ≤ 2 ∧ 2 <
 (↑4 : Int)) (.need ((0 : Int) ≤ 3 ∧ 3 < (↑4 : Int)) (.all fun hs_1 => .all fun hs_2 => .br (decide (Prod.snd (newRl i1 i2 i3 i4) = Prod.snd (newRl i1 i2 i3 i4))) (.br (decide (ckRl (RlD.rl z1) = ckRl (RlD.rl z1)))
 (.br (decide (lagRl (RlD.rl z1) = lagRl (RlD.rl z1))) (.need (RlD.Ok (RlD.mk z2 z3 (SrcD.mk (Src.epoch (Rl.src (Prod.fst (newRl i1 i2 i3 i4)))) (Src.site (Rl.src (Prod.fst (newRl i1 i2 i3 i4)))) (D.like
 (hs 0 0) (Src.offered (Rl.src (Prod.fst (newRl i1 i2 i3 i4))))) (Src.stored (Rl.src (Prod.fst (newRl i1 i2 i3 i4)))) (Src.applied (Rl.src (Prod.fst (newRl i1 i2 i3 i4))))) (D.like (hs 0 1) (Rl.kept (Prod.fst
 (newRl i1 i2 i3 i4))))) ∧ RlD.Ok (RlD.mk z2 z3 (SrcD.mk (Src.epoch (Rl.src (Prod.fst (newRl i1 i2 i3 i4)))) (Src.site (Rl.src (Prod.fst (newRl i1 i2 i3 i4)))) (D.like (hs_1 0 0) (Src.offered (Rl.src (Prod.fst
 (newRl i1 i2 i3 i4))))) (Src.stored (Rl.src (Prod.fst (newRl i1 i2 i3 i4)))) (Src.applied (Rl.src (Prod.fst (newRl i1 i2 i3 i4))))) (D.like (hs_1 0 1) (Rl.kept (Prod.fst (newRl i1 i2 i3 i4))))) ∧ RlD.rl
 (RlD.mk z2 z3 (SrcD.mk (Src.epoch (Rl.src (Prod.fst (newRl i1 i2 i3 i4)))) (Src.site (Rl.src (Prod.fst (newRl i1 i2 i3 i4)))) (D.like (hs 0 0) (Src.offered (Rl.src (Prod.fst (newRl i1 i2 i3 i4))))) (Src.stored
 (Rl.src (Prod.fst (newRl i1 i2 i3 i4)))) (Src.applied (Rl.src (Prod.fst (newRl i1 i2 i3 i4))))) (D.like (hs 0 1) (Rl.kept (Prod.fst (newRl i1 i2 i3 i4))))) = RlD.rl (RlD.mk z2 z3 (SrcD.mk (Src.epoch (Rl.src
 (Prod.fst (newRl i1 i2 i3 i4)))) (Src.site (Rl.src (Prod.fst (newRl i1 i2 i3 i4)))) (D.like (hs_1 0 0) (Src.offered (Rl.src (Prod.fst (newRl i1 i2 i3 i4))))) (Src.stored (Rl.src (Prod.fst (newRl i1 i2 i3 i4))))
 (Src.applied (Rl.src (Prod.fst (newRl i1 i2 i3 i4))))) (D.like (hs_1 0 1) (Rl.kept (Prod.fst (newRl i1 i2 i3 i4)))))) (.need (decide (Prod.snd (newRl i1 i2 i3 i4) = Prod.snd (newRl i1 i2 i3 i4)) = true)
 (.need (decide (Prod.snd (newRl i1 i2 i3 i4) = Prod.snd (newRl i1 i2 i3 i4)) = true) (.need (RlD.Ok z1) (.need (decide (Prod.snd (newRl i1 i2 i3 i4) = Prod.snd (newRl i1 i2 i3 i4)) = true) (.need (decide
 (Prod.snd (newRl i1 i2 i3 i4) = Prod.snd (newRl i1 i2 i3 i4)) = true) (.need (RlD.Ok z1) (.need (decide (Prod.snd (newRl i1 i2 i3 i4) = Prod.snd (newRl i1 i2 i3 i4)) = true) (.need (decide (Prod.snd (newRl i1 i2 i3 i4) = Prod.snd
 (newRl i1 i2 i3 i4)) = true) (.need (decide (ckRl (RlD.rl z1) = ckRl (RlD.rl z1)) = true) (.need (decide (ckRl (RlD.rl z1) = ckRl (RlD.rl z1)) = true) (.need (RlD.Ok z1) (.need (decide (ckRl (RlD.rl z1) = ckRl
 (RlD.rl z1)) = true) (.need (decide (ckRl (RlD.rl z1) = ckRl (RlD.rl z1)) = true) (.need (RlD.Ok z1) (.need (decide (ckRl (RlD.rl z1) = ckRl (RlD.rl z1)) = true) (.need (decide (ckRl (RlD.rl z1) = ckRl
 (RlD.rl z1)) = true) (.need (decide (lagRl (RlD.rl z1) = lagRl (RlD.rl z1)) = true) (.need (decide (lagRl (RlD.rl z1) = lagRl (RlD.rl z1)) = true) (.ret (.lb true))))))))))))))))))))) (.need (RlD.Ok (RlD.mk z2 z3
 (SrcD.mk (Src.epoch (Rl.src (Prod.fst (newRl i1 i2 i3 i4)))) (Src.site (Rl.src (Prod.fst (newRl i1 i2 i3 i4)))) (D.like (hs 0 0) (Src.offered (Rl.src (Prod.fst (newRl i1 i2 i3 i4))))) (Src.stored (Rl.src
 (Prod.fst (newRl i1 i2 i3 i4)))) (Src.applied (Rl.src (Prod.fst (newRl i1 i2 i3 i4))))) (D.like (hs 0 1) (Rl.kept (Prod.fst (newRl i1 i2 i3 i4))))) ∧ RlD.Ok (RlD.mk z2 z3 (SrcD.mk (Src.epoch (Rl.src (Prod.fst
 (newRl i1 i2 i3 i4)))) (Src.site (Rl.src (Prod.fst (newRl i1 i2 i3 i4)))) (D.like (hs_1 0 0) (Src.offered (Rl.src (Prod.fst (newRl i1 i2 i3 i4))))) (Src.stored (Rl.src (Prod.fst (newRl i1 i2 i3 i4))))
 (Src.applied (Rl.src (Prod.fst (newRl i1 i2 i3 i4))))) (D.like (hs_1 0 1) (Rl.kept (Prod.fst (newRl i1 i2 i3 i4))))) ∧ RlD.rl (RlD.mk z2 z3 (SrcD.mk (Src.epoch (Rl.src (Prod.fst (newRl i1 i2 i3 i4))))
 (Src.site (Rl.src (Prod.fst (newRl i1 i2 i3 i4)))) (D.like (hs 0 0) (Src.offered (Rl.src (Prod.fst (newRl i1 i2 i3 i4))))) (Src.stored (Rl.src (Prod.fst (newRl i1 i2 i3 i4)))) (Src.applied (Rl.src (Prod.fst
 (newRl i1 i2 i3 i4))))) (D.like (hs 0 1) (Rl.kept (Prod.fst (newRl i1 i2 i3 i4))))) = RlD.rl (RlD.mk z2 z3 (SrcD.mk (Src.epoch (Rl.src (Prod.fst (newRl i1 i2 i3 i4)))) (Src.site (Rl.src (Prod.fst (newRl i1 i2 i3 i4))))
 (D.like (hs_1 0 0) (Src.offered (Rl.src (Prod.fst (newRl i1 i2 i3 i4))))) (Src.stored (Rl.src (Prod.fst (newRl i1 i2 i3 i4)))) (Src.applied (Rl.src (Prod.fst (newRl i1 i2 i3 i4))))) (D.like (hs_1 0 1)
 (Rl.kept (Prod.fst (newRl i1 i2 i3 i4)))))) (.need (decide (Prod.snd (newRl i1 i2 i3 i4) = Prod.snd (newRl i1 i2 i3 i4)) = true) (.need (decide (Prod.snd (newRl i1 i2 i3 i4) = Prod.snd (newRl i1 i2 i3 i4)) = true)
 (.need (RlD.Ok z1) (.need (decide (Prod.snd (newRl i1 i2 i3 i4) = Prod.snd (newRl i1 i2 i3 i4)) = true) (.need (decide (Prod.snd (newRl i1 i2 i3 i4) = Prod.snd (newRl i1 i2 i3 i4)) = true) (.need (RlD.Ok z1)
 (.need (decide (Prod.snd (newRl i1 i2 i3 i4) = Prod.snd (newRl i1 i2 i3 i4)) = true) (.need (decide (Prod.snd (newRl i1 i2 i3 i4) = Prod.snd (newRl i1 i2 i3 i4)) = true) (.need (decide (ckRl (RlD.rl z1) = ckRl
 (RlD.rl z1)) = true) (.need (decide (ckRl (RlD.rl z1) = ckRl (RlD.rl z1)) = true) (.need (RlD.Ok z1) (.need (decide (ckRl (RlD.rl z1) = ckRl (RlD.rl z1)) = true) (.need (decide (ckRl (RlD.rl z1) = ckRl
 (RlD.rl z1)) = true) (.need (RlD.Ok z1) (.need (decide (ckRl (RlD.rl z1) = ckRl (RlD.rl z1)) = true) (.need (decide (ckRl (RlD.rl z1) = ckRl (RlD.rl z1)) = true) (.need (decide (lagRl (RlD.rl z1) = lagRl
 (RlD.rl z1)) = false) (.need (decide (lagRl (RlD.rl z1) = lagRl (RlD.rl z1)) = false) (.ret (.lb false)))))))))))))))))))))) (.need (RlD.Ok (RlD.mk z2 z3 (SrcD.mk (Src.epoch (Rl.src (Prod.fst (newRl i1 i2 i3 i4))))
 (Src.site (Rl.src (Prod.fst (newRl i1 i2 i3 i4)))) (D.like (hs 0 0) (Src.offered (Rl.src (Prod.fst (newRl i1 i2 i3 i4))))) (Src.stored (Rl.src (Prod.fst (newRl i1 i2 i3 i4)))) (Src.applied (Rl.src (Prod.fst
 (newRl i1 i2 i3 i4))))) (D.like (hs 0 1) (Rl.kept (Prod.fst (newRl i1 i2 i3 i4))))) ∧ RlD.Ok (RlD.mk z2 z3 (SrcD.mk (Src.epoch (Rl.src (Prod.fst (newRl i1 i2 i3 i4)))) (Src.site (Rl.src (Prod.fst (newRl i1 i2 i3 i4))))
 (D.like (hs_1 0 0) (Src.offered (Rl.src (Prod.fst (newRl i1 i2 i3 i4))))) (Src.stored (Rl.src (Prod.fst (newRl i1 i2 i3 i4)))) (Src.applied (Rl.src (Prod.fst (newRl i1 i2 i3 i4))))) (D.like (hs_1 0 1)
 (Rl.kept (Prod.fst (newRl i1 i2 i3 i4))))) ∧ RlD.rl (RlD.mk z2 z3 (SrcD.mk (Src.epoch (Rl.src (Prod.fst (newRl i1 i2 i3 i4)))) (Src.site (Rl.src (Prod.fst (newRl i1 i2 i3 i4)))) (D.like (hs 0 0) (Src.offered
 (Rl.src (Prod.fst (newRl i1 i2 i3 i4))))) (Src.stored (Rl.src (Prod.fst (newRl i1 i2 i3 i4)))) (Src.applied (Rl.src (Prod.fst (newRl i1 i2 i3 i4))))) (D.like (hs 0 1) (Rl.kept (Prod.fst (newRl i1 i2 i3 i4))))) = RlD.rl
 (RlD.mk z2 z3 (SrcD.mk (Src.epoch (Rl.src (Prod.fst (newRl i1 i2 i3 i4)))) (Src.site (Rl.src (Prod.fst (newRl i1 i2 i3 i4)))) (D.like (hs_1 0 0) (Src.offered (Rl.src (Prod.fst (newRl i1 i2 i3 i4))))) (Src.stored
 (Rl.src (Prod.fst (newRl i1 i2 i3 i4)))) (Src.applied (Rl.src (Prod.fst (newRl i1 i2 i3 i4))))) (D.like (hs_1 0 1) (Rl.kept (Prod.fst (newRl i1 i2 i3 i4)))))) (.need (decide (Prod.snd (newRl i1 i2 i3 i4) = Prod.snd
 (newRl i1 i2 i3 i4)) = true) (.need (decide (Prod.snd (newRl i1 i2 i3 i4) = Prod.snd (newRl i1 i2 i3 i4)) = true) (.need (RlD.Ok z1) (.need (decide (Prod.snd (newRl i1 i2 i3 i4) = Prod.snd (newRl i1 i2 i3 i4)) = true)
 (.need (decide (Prod.snd (newRl i1 i2 i3 i4) = Prod.snd (newRl i1 i2 i3 i4)) = true) (.need (RlD.Ok z1) (.need (decide (Prod.snd (newRl i1 i2 i3 i4) = Prod.snd (newRl i1 i2 i3 i4)) = true) (.need (decide
 (Prod.snd (newRl i1 i2 i3 i4) = Prod.snd (newRl i1 i2 i3 i4)) = true) (.need (decide (ckRl (RlD.rl z1) = ckRl (RlD.rl z1)) = false) (.need (decide (ckRl (RlD.rl z1) = ckRl (RlD.rl z1)) = false) (.need
 (decide (ckRl (RlD.rl z1) = ckRl (RlD.rl z1)) = false) (.need (decide (ckRl (RlD.rl z1) = ckRl (RlD.rl z1)) = false) (.need (decide (ckRl (RlD.rl z1) = ckRl (RlD.rl z1)) = false) (.need (decide (ckRl (RlD.rl z1) = ckRl
 (RlD.rl z1)) = false) (.ret (.lb false)))))))))))))))))) (.need (RlD.Ok (RlD.mk z2 z3 (SrcD.mk (Src.epoch (Rl.src (Prod.fst (newRl i1 i2 i3 i4)))) (Src.site (Rl.src (Prod.fst (newRl i1 i2 i3 i4)))) (D.like
 (hs 0 0) (Src.offered (Rl.src (Prod.fst (newRl i1 i2 i3 i4))))) (Src.stored (Rl.src (Prod.fst (newRl i1 i2 i3 i4)))) (Src.applied (Rl.src (Prod.fst (newRl i1 i2 i3 i4))))) (D.like (hs 0 1) (Rl.kept (Prod.fst
 (newRl i1 i2 i3 i4))))) ∧ RlD.Ok (RlD.mk z2 z3 (SrcD.mk (Src.epoch (Rl.src (Prod.fst (newRl i1 i2 i3 i4)))) (Src.site (Rl.src (Prod.fst (newRl i1 i2 i3 i4)))) (D.like (hs_1 0 0) (Src.offered (Rl.src (Prod.fst
 (newRl i1 i2 i3 i4))))) (Src.stored (Rl.src (Prod.fst (newRl i1 i2 i3 i4)))) (Src.applied (Rl.src (Prod.fst (newRl i1 i2 i3 i4))))) (D.like (hs_1 0 1) (Rl.kept (Prod.fst (newRl i1 i2 i3 i4))))) ∧ RlD.rl
 (RlD.mk z2 z3 (SrcD.mk (Src.epoch (Rl.src (Prod.fst (newRl i1 i2 i3 i4)))) (Src.site (Rl.src (Prod.fst (newRl i1 i2 i3 i4)))) (D.like (hs 0 0) (Src.offered (Rl.src (Prod.fst (newRl i1 i2 i3 i4))))) (Src.stored
 (Rl.src (Prod.fst (newRl i1 i2 i3 i4)))) (Src.applied (Rl.src (Prod.fst (newRl i1 i2 i3 i4))))) (D.like (hs 0 1) (Rl.kept (Prod.fst (newRl i1 i2 i3 i4))))) = RlD.rl (RlD.mk z2 z3 (SrcD.mk (Src.epoch (Rl.src
 (Prod.fst (newRl i1 i2 i3 i4)))) (Src.site (Rl.src (Prod.fst (newRl i1 i2 i3 i4)))) (D.like (hs_1 0 0) (Src.offered (Rl.src (Prod.fst (newRl i1 i2 i3 i4))))) (Src.stored (Rl.src (Prod.fst (newRl i1 i2 i3 i4))))
 (Src.applied (Rl.src (Prod.fst (newRl i1 i2 i3 i4))))) (D.like (hs_1 0 1) (Rl.kept (Prod.fst (newRl i1 i2 i3 i4)))))) (.need (decide (Prod.snd (newRl i1 i2 i3 i4) = Prod.snd (newRl i1 i2 i3 i4)) = false)
 (.need (decide (Prod.snd (newRl i1 i2 i3 i4) = Prod.snd (newRl i1 i2 i3 i4)) = false) (.need (decide (Prod.snd (newRl i1 i2 i3 i4) = Prod.snd (newRl i1 i2 i3 i4)) = false) (.need (decide (Prod.snd (newRl i1 i2 i3 i4) = Prod.snd
 (newRl i1 i2 i3 i4)) = false) (.need (decide (Prod.snd (newRl i1 i2 i3 i4) = Prod.snd (newRl i1 i2 i3 i4)) = false) (.need (decide (Prod.snd (newRl i1 i2 i3 i4) = Prod.snd (newRl i1 i2 i3 i4)) = false)
 (.ret (.lb false))))))))))))))))))) := by
 intros; kernel_rfl


end
end Go.Proofs.Ytllmgnhjljmihaa
end
section
open Go Go.Proofs Sx
namespace Sx
def rdArr4 : Rd1 (Int × Int × Int × Int) where
  read x := match x with
    | .agg [.int .i64 a, .int .i64 b, .int .i64 c, .int .i64 d] => some (a, b, c, d)
    | _ => none
  canon x := .agg [.int .i64 x.1, .int .i64 x.2.1, .int .i64 x.2.2.1, .int .i64 x.2.2.2]
  right H E x b h hok := by
    split at h
    · cases h; exact ⟨rfl, by simp [SV.Ok, SV.OkL]⟩
    · cases h
def spCMk (x : (Int × Int × Int × Int) × RlD) : SpecR := .scalar [x.2.src.d.Is Int ∧ x.2.k.Is Cy] (.lb true)
def spCRs (x : RlD × Int × Int) : SpecR := .scalar [x.1.src.d.Is Int ∧ x.1.k.Is Cy] (.lb true)
end Sx
namespace Go.Proofs.Ytllmgnhjljmihaa
set_option maxRecDepth 100000
set_option maxHeartbeats 0
theorem ctLOk : Ctrs.Ok Try.prog ctL := by
  intro x hx
  simp only [ctL, List.mem_cons, List.not_mem_nil, or_false] at hx
  rcases hx with rfl | rfl | rfl | rfl | rfl | rfl | rfl | rfl | rfl | rfl | rfl
  · exact ctrOf_ok lawFwR
  · exact ctrOf_ok lawAwk
  · exact ctrOf_ok lawSmS
  · exact ctrOf_ok lawNew
  · exact ctrOf_ok lawNewR
  · exact ctrOf_ok lawCk
  · exact ctrOf_ok lawCkRf
  · exact ctrOf_ok lawLag
  · exact ctrOf_ok lawLagR
  · exact ctrOf_ok lawRst
  · exact ctrOf_ok lawRstR
theorem lawCMk : Law Try.prog 4 ((rdArr4.two rdRl).sp spCMk) := by
  refine law_in _ (by kernel_rfl) fun H w ⟨⟨i1, i2, i3, i4⟩, ⟨a1, a2, a3, a4⟩, ⟨b1, b2, b3, b4⟩, ⟨e, s, o, st, ap⟩, k⟩ hok hp => ?_
  obtain ⟨h1, h2⟩ := hp _ (List.mem_singleton.2 rfl)
  simp only at h1 h2
  apply exec_sound ctLOk 400
  rw [show (rdArr4.two rdRl).canon ((i1, i2, i3, i4), ⟨⟨a1, a2, a3, a4⟩, ⟨b1, b2, b3, b4⟩, ⟨e, s, o, st, ap⟩, k⟩) = [.agg [.int .i64 i1, .int .i64 i2, .int .i64 i3, .int .i64 i4], .agg [.int .i64 a1, .int .i64 a2, .int .i64 a3, .int .i64 a4, .int .i64 b1, .int .i64 b2, .int .i64 b3, .int .i64 b4, .int .i64 e, .int .i64 s, .dat o, .int .i64 st, .int .i64 ap, .dat k]] from rfl, cmk_in]
  refine ⟨⟨h1, h2⟩, fun _ => ret_lbt, fun hf => ?_⟩
  have hx : RlD.Ok ⟨⟨a1, a2, a3, a4⟩, ⟨b1, b2, b3, b4⟩, ⟨e, s, o, st, ap⟩, k⟩ := fewRl_ok h1 h2 (by simpa using hf)
  repeat' first
    | exact ret_lbt
    | with_reducible refine holds_all.2 fun _ => ?_
    | with_reducible refine holds_br.2 ⟨fun hb => ?_, fun hb => ?_⟩
    | (exfalso; simp at hb; done)
    | refine holds_need.2 ⟨hx, ?_⟩
    | refine holds_need.2 ⟨same_rl (newRl_b _ _ _ _), ?_⟩
    | refine holds_need.2 ⟨decide_eq_true rfl, ?_⟩
    | refine holds_need.2 ⟨⟨by decide, by decide⟩, ?_⟩
end Go.Proofs.Ytllmgnhjljmihaa
end
