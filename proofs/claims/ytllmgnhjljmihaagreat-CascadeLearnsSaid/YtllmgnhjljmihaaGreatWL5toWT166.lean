/- Layer 15: the laws of lists. -/
import Derived.Test.YtllmgnhjljmihaaGreatOvtoWT5
import Derived.KernelRfl
import Derived.Sort.Row
set_option linter.all false
section
open Go Go.Proofs Sx
namespace Go.Proofs.YtllmgnhjljmihaaGreat
set_option maxRecDepth 100000

theorem ctIdxOk : Ctrs.Ok Tryz.prog [(103, ctrOf ((rdD.two (rdFn 102)).sp spIdxBad))] := by
  intro x hx; rw [List.mem_singleton.1 hx]; exact ctrOf_ok lawIdx
theorem lawAny : Law Tryz.prog 91 ((rdD.two (rdFn 102)).sp spAnyBad) := by
  refine law_in _ (by kernel_rfl) fun H w ⟨d, u⟩ hok hp => ?_
  apply exec_sound ctIdxOk 200
  rw [show (rdD.two (rdFn 102)).canon (d, u) = [.dat d, .fn 102 [] []] from rfl, any_in]
  exact ⟨hp _ (List.mem_singleton.2 rfl), ret_bool (idxP_any _ _)⟩
theorem ctAnyOk : Ctrs.Ok Tryz.prog [(91, ctrOf ((rdD.two (rdFn 102)).sp spAnyBad))] := by
  intro x hx; rw [List.mem_singleton.1 hx]; exact ctrOf_ok lawAny
theorem lawSizes : Law Tryz.prog 88 (rdD.one.sp spSizes) := by
  refine law_in _ (by kernel_rfl) fun H w d hok hp => ?_
  obtain ⟨hd, hlen⟩ := hp _ (List.mem_singleton.2 rfl)
  have hl := D.Is.length (α := Int) d
  apply exec_sound ctAnyOk 200
  rw [show rdD.one.canon d = [.dat d] from rfl, cs_in]
  refine ⟨fun hc => ret_int ?_, fun hc => ⟨fun hc2 => ret_int ?_, fun hc2 => ⟨⟨hd, hlen⟩, fun h => ret_int ?_, fun h => ret_int ?_⟩⟩⟩
  · have := of_decide_eq_true hc; unfold sizesErr; rw [if_pos (by omega)]
  · have := of_decide_eq_true hc2; unfold sizesErr; rw [if_pos (by omega)]
  · have := of_decide_eq_false hc; have := of_decide_eq_false hc2; unfold sizesErr; rw [if_neg (by omega), if_pos h]
  · have := of_decide_eq_false hc; have := of_decide_eq_false hc2; unfold sizesErr; rw [if_neg (by omega), if_neg (by simp [h])]
theorem ctNewOk : Ctrs.Ok Tryz.prog [(88, ctrOf (rdD.one.sp spSizes)), (89, ctrOf ((rdD.two (rdFn 90)).sp spMapN))] := by
  intro x hx
  rcases List.mem_cons.1 hx with rfl | hx
  · exact ctrOf_ok lawSizes
  · rw [List.mem_singleton.1 hx]; exact ctrOf_ok lawMapN
theorem lawNewI : Law Tryz.prog 57 (rdD.one.sp spNewI) := by
  refine law_in _ (by kernel_rfl) fun H w d hok hp => ?_
  obtain ⟨hd, hlen⟩ := hp _ (List.mem_singleton.2 rfl)
  have hl := D.Is.length (α := Int) d
  apply exec_sound ctNewOk 200
  rw [show rdD.one.canon d = [.dat d] from rfl, new_in]
  refine ⟨⟨hd, hlen⟩, fun h => ?_, fun h => ?_⟩
  · refine ret_oneI stands_nils ?_ rfl
    unfold imgOf
    rw [if_pos (by simpa using h)]
  · have h0 : sizesErr (d.to Int) = 0 := by simpa using h
    obtain ⟨s1, s2, s3⟩ := sizesErr_ok h0
    refine ⟨⟨hd, by omega, fun n hn => by have := s3 n hn; omega⟩, fun hs => ret_oneI stands_like ?_ h0.symm⟩
    unfold imgOf
    rw [if_neg (by simp [h0])]
theorem ctSzOk : Ctrs.Ok Tryz.prog [(109, ctrOf ((rdD.two (rdFn 110)).sp spMapS))] := by
  intro x hx; rw [List.mem_singleton.1 hx]; exact ctrOf_ok lawMapS
theorem lawSzs : Law Tryz.prog 108 (rdD.one.sp spSzs) := by
  refine law_in _ (by kernel_rfl) fun H w d hok hp => ?_
  apply exec_sound ctSzOk 200
  rw [show rdD.one.canon d = [.dat d] from rfl, sz_in]
  exact ⟨hp _ (List.mem_singleton.2 rfl), fun hs => ret_one stands_like rfl⟩
theorem ctChkOk : Ctrs.Ok Tryz.prog [(108, ctrOf (rdD.one.sp spSzs)), (88, ctrOf (rdD.one.sp spSizes))] := by
  intro x hx
  rcases List.mem_cons.1 hx with rfl | hx
  · exact ctrOf_ok lawSzs
  · rw [List.mem_singleton.1 hx]; exact ctrOf_ok lawSizes
theorem lawChkI : Law Tryz.prog 104 (rdD.one.sp spChkI) := by
  refine law_in _ (by kernel_rfl) fun H w d hok hp => ?_
  obtain ⟨hd, hlen⟩ := hp _ (List.mem_singleton.2 rfl)
  have hl := D.Is.length (α := Vol) d
  apply exec_sound ctChkOk 200
  rw [show rdD.one.canon d = [.dat d] from rfl, chk_in]
  refine ⟨⟨hd, hlen⟩, fun hs => ⟨⟨D.like_is _ _, ?_⟩, ret_int (by rw [D.like_to])⟩⟩
  rw [D.Is.length (α := Int), D.like_to]; simp only [volSizes, List.length_map]; omega
theorem ctFitsOk : Ctrs.Ok Tryz.prog [(104, ctrOf (rdD.one.sp spChkI)), (105, ctrOf ((rdD.two rdWt).sp spFits1))] := by
  intro x hx
  rcases List.mem_cons.1 hx with rfl | hx
  · exact ctrOf_ok lawChkI
  · rw [List.mem_singleton.1 hx]; exact ctrOf_ok lawFits1
theorem lawFitsI : Law Tryz.prog 95 ((rdD.two rdWt).sp spFitsI) := by
  refine law_in _ (by kernel_rfl) fun H w ⟨d, ⟨v, s, e⟩⟩ hok hp => ?_
  obtain ⟨hd, he⟩ := hp _ (List.mem_singleton.2 rfl)
  apply exec_sound ctFitsOk 200
  rw [show (rdD.two rdWt).canon (d, ⟨v, s, e⟩) = [.dat d, .agg [.int .i64 v, .int .i64 s, .dat e]] from rfl, fits_in]
  refine ⟨⟨hd.1, hd.2.1⟩, fun h => ret_int ?_, fun h => ⟨⟨hd, he⟩, ret_int ?_⟩⟩
  · unfold fitsI; rw [if_pos (by simpa using h)]
  · unfold fitsI; rw [if_neg (by simpa using h)]

theorem lawInts : Law Tryz.prog 38 ((rdD.two rdD).sp spInts) := by
  refine law_in _ (by kernel_rfl) fun H w ⟨a, b⟩ hok hp => ?_
  obtain ⟨ha, hb, hlen⟩ := hp _ (List.mem_singleton.2 rfl)
  simp only at ha hb hlen
  have hla := D.Is.length (α := Int) a
  have hlb := D.Is.length (α := Int) b
  apply exec_sound (noCtr _) 200
  rw [show (rdD.two rdD).canon (a, b) = [.dat a, .dat b] from rfl, ints_in]
  refine ⟨fun hc => ret_lb ?_, fun hc => ?_⟩
  · exact same_not fun he => by simp [hla, hlb, he] at hc
  have hc' : (a.to Int).length = (b.to Int).length := by simp [hla, hlb] at hc; omega
  refine runs_loop (fun j : Nat => intsL a b j) (fun j => j ≤ (a.to Int).length ∧ (a.to Int).take j = (b.to Int).take j) (fun j => (a.to Int).length - j) (fun _ => rfl) ?_ 0 ⟨Nat.zero_le _, rfl⟩
  intro j ⟨hj, hpre⟩ ih
  apply exec_sound (noCtr _) 200
  rw [ints_go]
  refine ⟨fun hc hs => ?_, fun hc => ret_lb ?_⟩
  · have hc : j < (a.to Int).length := by have := of_decide_eq_true hc; omega
    obtain ⟨c1, c2, c3⟩ := int_at ha hc
    obtain ⟨e1, e2, e3⟩ := int_at hb (hc' ▸ hc)
    refine ⟨c1, c2, e1, e2, fun h => ret_lb ?_, fun h => ?_⟩
    · refine same_not fun he => ?_
      simp only [c3, e3, he, bne_self_eq_false] at h
      cases h
    · have hx : (a.to Int)[j] = (b.to Int)[j]'(hc' ▸ hc) := by rw [c3, e3] at h; simpa using h
      have := ih (j + 1) ⟨hc, take_succ_eq hc (hc' ▸ hc) hpre hx⟩ (by omega)
      rw [← wrap_succ hc (by omega)] at this
      exact this
  · have := of_decide_eq_false hc
    exact (decide_eq_true (list_eq_of hc' (by omega) hpre)).symm

theorem lawSecs : Law Tryz.prog 81 ((rdD.two rdD).sp spSecs) := by
  refine law_in _ (by kernel_rfl) fun H w ⟨a, b⟩ hok hp => ?_
  obtain ⟨ha, hb, hlen⟩ := hp _ (List.mem_singleton.2 rfl)
  simp only at ha hb hlen
  have hla := D.Is.length (α := Sec) a
  have hlb := D.Is.length (α := Sec) b
  apply exec_sound (noCtr _) 200
  rw [show (rdD.two rdD).canon (a, b) = [.dat a, .dat b] from rfl, secs_in]
  refine ⟨fun hc => ret_lb ?_, fun hc => ?_⟩
  · exact same_not fun he => by simp [hla, hlb, he] at hc
  have hc' : (a.to Sec).length = (b.to Sec).length := by simp [hla, hlb] at hc; omega
  refine runs_loop (fun j : Nat => secsL a b j) (fun j => j ≤ (a.to Sec).length ∧ (a.to Sec).take j = (b.to Sec).take j) (fun j => (a.to Sec).length - j) (fun _ => rfl) ?_ 0 ⟨Nat.zero_le _, rfl⟩
  intro j ⟨hj, hpre⟩ ih
  apply exec_sound (noCtr _) 200
  rw [secs_go]
  refine ⟨fun hc hs => ?_, fun hc => ret_lb ?_⟩
  · have hc : j < (a.to Sec).length := by have := of_decide_eq_true hc; omega
    obtain ⟨c1, c2⟩ := sec_cell ha hc
    obtain ⟨e1, e2⟩ := sec_cell hb (hc' ▸ hc)
    refine ⟨⟨by omega, by omega, ha.size hc⟩, c1, ⟨by omega, by omega, hb.size (hc' ▸ hc)⟩, e1, fun h => ret_lb ?_, fun h => ?_⟩
    · refine same_not fun he => ?_
      have he2 : (a.to Sec)[j] = (b.to Sec)[j]'(hc' ▸ hc) := by simp only [he]
      rw [c2, e2] at he2
      simp only [Sec.mk.injEq] at he2
      simp [he2] at h
    · have hx : (a.to Sec)[j] = (b.to Sec)[j]'(hc' ▸ hc) := by
        rw [c2, e2]
        simp only [Int.toNat_natCast, Bool.and_true, Bool.not_eq_false', Bool.and_eq_true, decide_eq_true_eq] at h
        rw [h.1, h.2.1, h.2.2.1, h.2.2.2.1, h.2.2.2.2.1, h.2.2.2.2.2.1, h.2.2.2.2.2.2.1, h.2.2.2.2.2.2.2]
      have := ih (j + 1) ⟨hc, take_succ_eq hc (hc' ▸ hc) hpre hx⟩ (by omega)
      rw [← wrap_succ hc (by omega)] at this
      exact this
  · have := of_decide_eq_false hc
    exact (decide_eq_true (list_eq_of hc' (by omega) hpre)).symm
theorem ctSecs : Ctrs.Ok Tryz.prog [(81, ctrOf ((rdD.two rdD).sp spSecs))] := by
  intro x hx; rw [List.mem_singleton.1 hx]; exact ctrOf_ok lawSecs

theorem lawWts : Law Tryz.prog 49 ((rdD.two rdD).sp spWts) := by
  refine law_in _ (by kernel_rfl) fun H w ⟨a, b⟩ hok hp => ?_
  obtain ⟨ha, hb, hlen, hbig⟩ := hp _ (List.mem_singleton.2 rfl)
  simp only at ha hb hlen hbig
  have hla := D.Is.length (α := Wt) a
  have hlb := D.Is.length (α := Wt) b
  apply exec_sound (noCtr _) 200
  rw [show (rdD.two rdD).canon (a, b) = [.dat a, .dat b] from rfl, wts_in]
  refine ⟨fun hc => ret_lb ?_, fun hc => ?_⟩
  · exact same_not fun he => by simp [hla, hlb, he] at hc
  have hc' : (a.to Wt).length = (b.to Wt).length := by simp [hla, hlb] at hc; omega
  refine runs_loop (fun j : Nat => wtsL a b j) (fun j => j ≤ (a.to Wt).length ∧ (a.to Wt).take j = (b.to Wt).take j) (fun j => (a.to Wt).length - j) (fun _ => rfl) ?_ 0 ⟨Nat.zero_le _, rfl⟩
  intro j ⟨hj, hpre⟩ ih
  apply exec_sound ctSecs 300
  rw [wts_go]
  refine ⟨fun hc hs => ?_, fun hc => ret_lb ?_⟩
  · have hc : j < (a.to Wt).length := by have := of_decide_eq_true hc; omega
    obtain ⟨c1, c2, c3⟩ := wt_cell ha hc
    obtain ⟨e1, e2, e3⟩ := wt_cell hb (hc' ▸ hc)
    have a0 : 0 ≤ (j : Int) ∧ (j : Int) < (a.len : Int) ∧ a.sz = 3 := ⟨by omega, by omega, ha.size hc⟩
    have b0 : 0 ≤ (j : Int) ∧ (j : Int) < (b.len : Int) ∧ b.sz = 3 := ⟨by omega, by omega, hb.size (hc' ▸ hc)⟩
    have a1 : a.HasCell (Int.toNat (j : Int)) 0 (.int .i64) := c1.1
    have a2 : a.HasCell (Int.toNat (j : Int)) 1 (.int .i64) := c1.2.1
    have a3 : a.HasCell (Int.toNat (j : Int)) 2 .slc := c1.2.2.1
    have b1 : b.HasCell (Int.toNat (j : Int)) 0 (.int .i64) := e1.1
    have b2 : b.HasCell (Int.toNat (j : Int)) 1 (.int .i64) := e1.2.1
    have b3 : b.HasCell (Int.toNat (j : Int)) 2 .slc := e1.2.2.1
    have hsz := hbig _ (List.getElem_mem hc)
    rw [c3] at hsz
    have dif : (¬((a.getInt j 0 = b.getInt j 0 ∧ a.getInt j 1 = b.getInt j 1) ∧ (a.cell j 2).to Sec = (b.cell j 2).to Sec)) → (a.to Wt) ≠ (b.to Wt) := fun hn he => hn (by
      have he2 : (a.to Wt)[j] = (b.to Wt)[j]'(hc' ▸ hc) := by simp only [he]
      rw [c3, e3] at he2
      simp only [Wt.mk.injEq] at he2
      exact ⟨⟨he2.1, he2.2.1⟩, he2.2.2⟩)
    have s0 : D.Is Sec (a.cell (Int.toNat (j : Int)) 2) ∧ D.Is Sec (b.cell (Int.toNat (j : Int)) 2) ∧ D.len (a.cell (Int.toNat (j : Int)) 2) ≤ 1048576 := ⟨c2, e2, by rw [D.Is.length (α := Sec)]; exact hsz⟩
    refine ⟨fun h1 => ?_, fun h1 => ⟨fun h2 => ?_, fun h2 => ?_⟩⟩
    · have nn := dif (fun hh => by simp only [Int.toNat_natCast, hh.1.1, bne_self_eq_false] at h1; cases h1)
      repeat' first
      | exact h1
      | exact a0
      | exact b0
      | exact a1
      | exact b1
      | exact ret_lb (same_not nn)
      | refine ⟨?_, ?_⟩
    · have nn := dif (fun hh => by simp only [Int.toNat_natCast, hh.1.2, bne_self_eq_false] at h2; cases h2)
      repeat' first
      | exact h1
      | exact h2
      | exact a0
      | exact b0
      | exact a1
      | exact b1
      | exact a2
      | exact b2
      | exact ret_lb (same_not nn)
      | refine ⟨?_, ?_⟩
    · have q1 : a.getInt j 0 = b.getInt j 0 := by simpa using h1
      have q2 : a.getInt j 1 = b.getInt j 1 := by simpa using h2
      have fin : ((Tree.br (!decide (D.to Sec (a.cell (Int.toNat (j : Int)) 2) = D.to Sec (b.cell (Int.toNat (j : Int)) 2))) (Tree.ret (SV.lb false)) (Tree.leaf (wtsL a b (IntKind.i64.wrap ((j : Int) + 1))))).holds Tryz.prog ⟨w, H⟩ (RetS w H (.bool (decide (a.to Wt = b.to Wt))))) := by
        refine ⟨fun h3 => ret_lb (same_not (dif fun hh => ?_)), fun h3 => ?_⟩
        · simp only [Int.toNat_natCast, hh.2, decide_true, Bool.not_true] at h3; cases h3
        · have q3 : (a.cell j 2).to Sec = (b.cell j 2).to Sec := by simpa using h3
          have := ih (j + 1) ⟨hc, take_succ_eq hc (hc' ▸ hc) hpre (by rw [c3, e3, q1, q2, q3])⟩ (by omega)
          rw [← wrap_succ hc (by omega)] at this
          exact this
      repeat' first
      | exact h1
      | exact h2
      | exact a0
      | exact b0
      | exact a1
      | exact b1
      | exact a2
      | exact b2
      | exact a3
      | exact b3
      | exact s0
      | exact fin
      | refine ⟨?_, ?_⟩
  · have := of_decide_eq_false hc
    exact (decide_eq_true (list_eq_of hc' (by omega) hpre)).symm

end Go.Proofs.YtllmgnhjljmihaaGreat
end
section
namespace Sx
open Go
def atDst (c : Conf) : Option (FuncId × Nat) :=
  match c.top.ri with
  | some _ => none
  | none => match c.top.todo with
    | .code (.region _ ops _) :: _ => match ops[0]? with
      | some o => match o.dst with
        | some d => some (c.top.fn, d)
        | none => none
      | none => none
    | _ => none

def restsAt (l : List (FuncId × Nat)) (c : Conf) : Bool :=
  match atDst c with
  | some (f, d) => l.any fun x => x.1 == f && x.2 == d
  | none => false
def liveW (P : Program) (g : SFrm) : List Nat :=
  let out := (liveI (retN P g.fn) g.todo).1
  let live := match g.ri with
    | some (ops, l) => liveOps ops (l.filterMap fun i => ops[i]?) out
    | none => out
  match g.await with
  | some t => live.filter (· != t)
  | none => live
def fgtR (P : Program) (c : Conf) : Conf :=
  match c.rest with
  | [] => c
  | g :: r =>
    let n := 1000 * r.length
    let live := liveW P g
    if keptOk n live 0 g.tmps && c.mem.all (fun e => !e.2.jk n) && r.all (fun f => !SV.jkL n f.tmps) && !SV.jkL n c.top.tmps then
      { c with rest := { g with tmps := maskT n live 0 g.tmps } :: r }
    else c

theorem fgtR_sound {P : Program} {C : Ctx} {R : Value → World → Prop} {c : Conf} (h : Runs P C (fgtR P c) R) : Runs P C c R := by
  obtain ⟨top, rest, mem⟩ := c
  unfold fgtR at h
  simp only at h
  cases rest with
  | nil => exact h
  | cons g r =>
    simp only at h
    split at h
    · rename_i hc
      simp only [Bool.and_eq_true, Bool.not_eq_true'] at hc
      obtain ⟨⟨⟨h1, h2⟩, h3⟩, h4⟩ := hc
      intro E H w gd ok
      let n := 1000 * r.length
      let E' : Env := ⟨E.b, E.v, fun i => if i < n then E.j i else ((SV.denL E g.tmps)[i - n]?).getD Go.undef⟩
      have hs : Same n E E' := ⟨rfl, rfl, fun i hi => by simp [E', hi]⟩
      have hg := gd.same' hs (fun x hx => by have := List.all_eq_true.1 h2 x hx; simpa using this)
      have hr := h E' H w hg ⟨ok.1, fun f hf => by
        rcases List.mem_cons.1 hf with rfl | hf
        · exact maskT_ok _ _ _ (ok.2 g (by simp))
        · exact ok.2 f (by simp [hf])⟩
      have e1 : SV.denL E' (maskT n (liveW P g) 0 g.tmps) = SV.denL E g.tmps := by
        refine maskT_den hs _ _ 0 h1 (fun i v hv => ?_)
        simp only [E', Nat.zero_add]
        rw [if_neg (by omega), show n + i - n = i from by omega, SV.denL_eq, List.getElem?_map, hv]
        rfl
      have e2 : r.map (SFrm.den E') = r.map (SFrm.den E) := by
        apply List.map_congr_left
        intro f hf
        have := List.all_eq_true.1 h3 f hf
        simp only [Bool.not_eq_true'] at this
        simp [SFrm.den, denL_same hs _ this]
      have e3 : SFrm.den E' top = top.den E := by simp [SFrm.den, denL_same hs _ h4]
      have e4 : SFrm.den E' { g with tmps := maskT n (liveW P g) 0 g.tmps } = g.den E := by
        simp only [SFrm.den]; rw [e1]
      simp only [List.map_cons] at hr ⊢
      rw [e2, e3] at hr
      rw [show SFrm.den E' { g with tmps := maskT (1000 * r.length) (liveW P g) 0 g.tmps } = g.den E from e4] at hr
      exact hr
    · exact h
noncomputable def restC (P : Program) (c : Conf) : Tree := headC P (fgtR P c) leafR
noncomputable def execS (P : Program) (cs : Ctrs) (U : FuncId → Bool) (S : List (FuncId × Nat)) (n : Nat) : Conf → Tree :=
  Nat.rec (motive := fun _ => Conf → Tree) (fun _ => .stuck) (fun _ ih c => match restsAt S c with
    | true => restC P c
    | false => stepC P cs U ih c) n
noncomputable def goS (P : Program) (cs : Ctrs) (U : FuncId → Bool) (S : List (FuncId × Nat)) (n : Nat) (c : Conf) : Tree := stepC P cs U (execS P cs U S n) c

section
variable {P : Program} {C : Ctx} {R : Value → World → Prop} {cs : Ctrs}
theorem execS_sound (hcs : cs.Ok P) (U : FuncId → Bool) (S : List (FuncId × Nat)) : ∀ (n : Nat) (c : Conf), (execS P cs U S n c).holds P C R → Runs P C c R
  | 0, _, h => h.elim
  | n + 1, c, h => by
    have e : execS P cs U S (n + 1) c = match restsAt S c with
      | true => restC P c
      | false => stepC P cs U (execS P cs U S n) c := rfl
    rw [e] at h
    cases hr : restsAt S c with
    | true => rw [hr] at h; exact fgtR_sound (headR_sound h)
    | false => rw [hr] at h; exact step_sound (U := U) hcs (fun c h => execS_sound hcs U S n c h) c h
theorem goS_sound (hcs : cs.Ok P) (U : FuncId → Bool) (S : List (FuncId × Nat)) (n : Nat) (c : Conf) (h : (goS P cs U S n c).holds P C R) : Runs P C c R :=
  step_sound (U := U) hcs (fun c h => execS_sound hcs U S n c h) c h
end

/-! A cell that is known to be true. -/
def lbIn (b off : Nat) (c : Conf) : Option Conf :=
  match c.mem.get b with
  | some (.cells t cs) => match cs[off]? with
    | some (.bool true) => some ⟨c.top, c.rest, c.mem.set b (.cells t (cs.set off (.lb true)))⟩
    | _ => none
  | _ => none


end Sx
end
section
open Go Go.Proofs Sx
namespace Go.Proofs.YtllmgnhjljmihaaGreat
set_option maxRecDepth 100000
set_option maxHeartbeats 0
noncomputable def ctCo : Ctrs := [(57, ctrOf (rdD.one.sp spNewI)), (95, ctrOf ((rdD.two rdWt).sp spFitsI))]
noncomputable def ctCy : Ctrs := [(57, ctrOf (rdD.one.sp spNewI)), (59, ctrOf ((rdD.two rdInt).sp spPosL)), (60, ctrOf ((rdD.two rdD).sp spCo))]
noncomputable def ctCoR : Ctrs := [(69, ctrOf (rdD.one.sp spSizes)), (99, ctrOf ((rdD.two rdWt).sp spFitsR))]
noncomputable def ctCyR : Ctrs := [(69, ctrOf (rdD.one.sp spSizes)), (70, ctrOf (rdD.one.sp spPos)), (71, ctrOf ((rdD.two rdD).sp spCo))]
section
variable (d e p q s : D) (b n t b' n' t' : Int)
theorem coa_in : goS Tryz.prog ctCo (fun _ => false) [(60, 15)] 300 (entry Tryz.prog 60 [.dat d, .dat s]) =
 Tree.need (D.Is Int s ∧ D.len s ≤ 1048576)
 (.all fun hs =>
 .br (sizesErr (D.to Int s) != 0) (.ret (.int .i64 (sizesErr (D.to Int s))))
 (.leaf
 (Conf.mk
 (SFrm.mk 60 none none
 [Item.code (cAt Tryz.prog 60 [1, 1, 1, 0]), Item.code (cAt Tryz.prog 60 [1, 1, 0, 1, 0, 1])]
 (mkJ 0 [(0, .dat d), (5, .ptr 0 0)] 0 18))
 [] [(0, OBlk.cells 103 [.dat (D.like (hs 0 0) (imgOf (D.to Int s)))])]))) := by kernel_rfl


theorem cyc_in : exec Tryz.prog ctCy 300 (entry Tryz.prog 25 [.agg [.int .i64 b, .int .i64 n, .int .i64 t, .dat p, .dat q], .dat s]) =
 Tree.need (D.Is Int s ∧ D.len s ≤ 1048576)
 (.all fun hs =>
 .br (sizesErr (D.to Int s) != 0) (.ret (.int .i64 (sizesErr (D.to Int s))))
 (.br (decide (b < 0)) (.ret (.int .i64 2))
 (.br (decide (n ≤ b)) (.ret (.int .i64 2))
 (.br (decide (n > 1073741824)) (.ret (.int .i64 2))
 (.br (decide (t ≥ 0))
 (.br (!decide (t ≤ 1073741824)) (.ret (.int .i64 24))
 (.need (D.Is Int p ∧ D.len p ≤ 1048576)
 (.br (posL (D.to Int p) 0 != 0) (.ret (.int .i64 (posL (D.to Int p) 0)))
 (.need
 (D.Is Wt q ∧
 D.len q ≤ 1048576 ∧
 (∀ (w : Wt), List.Mem w (D.to Wt q) → List.length (Wt.data w) ≤ 1048576) ∧
 D.Is Int s ∧ D.len s ≤ 1048576)
 (.ret (.int .i64 (coErr (D.to Wt q) (D.to Int s))))))))
 (.ret (.int .i64 24))))))) := by kernel_rfl

theorem r22_in : exec Tryz.prog ctCoR 300 (entry Tryz.prog 71 [.dat d, .dat s]) =
 Tree.need (D.Is Int s ∧ D.len s ≤ 1048576)
 (.br (sizesErr (D.to Int s) != 0) (.ret (.int .i64 (sizesErr (D.to Int s))))
 (.leaf
 (Conf.mk
 (SFrm.mk 71 none none
 [Item.inLoop (cAt Tryz.prog 71 [1, 1, 0, 1, 0, 0]), Item.inBlock 0, Item.code (cAt Tryz.prog 71 [1, 1, 1])]
 (mkJ 0 [(0, .dat d), (1, .dat s), (6, .int .i64 0)] 0 69))
 [] []))) := by kernel_rfl

theorem rpo_in : exec Tryz.prog [] 300 (entry Tryz.prog 70 [.dat d]) =
 Tree.leaf
 (Conf.mk
 (SFrm.mk 70 none none
 [Item.inLoop (cAt Tryz.prog 70 [1, 0, 1, 0, 0]), Item.inBlock 0, Item.code (cAt Tryz.prog 70 [1, 1])]
 (mkJ 0 [(0, .dat d), (3, .int .i64 0)] 0 22))
 [] []) := by kernel_rfl

theorem rcy_in : exec Tryz.prog ctCyR 300 (entry Tryz.prog 32 [.agg [.int .i64 b, .int .i64 n, .int .i64 t, .dat p, .dat q], .dat s]) =
 Tree.need (D.Is Int s ∧ D.len s ≤ 1048576)
 (.br (sizesErr (D.to Int s) != 0) (.ret (.int .i64 (sizesErr (D.to Int s))))
 (.br (decide (b < 0)) (.ret (.int .i64 2))
 (.br (decide (n ≤ b)) (.ret (.int .i64 2))
 (.br (decide (n > 1073741824)) (.ret (.int .i64 2))
 (.br (decide (t < 0)) (.ret (.int .i64 24))
 (.br (decide (t > 1073741824)) (.ret (.int .i64 24))
 (.br (decide ((↑(D.len p) : Int) > 8)) (.ret (.int .i64 6))
 (.need (D.Is Int p ∧ D.len p ≤ 1048576)
 (.br (posT (D.to Int p) != 0) (.ret (.int .i64 (posT (D.to Int p))))
 (.need
 (D.Is Wt q ∧
 D.len q ≤ 1048576 ∧
 (∀ (w : Wt), List.Mem w (D.to Wt q) → List.length (Wt.data w) ≤ 1048576) ∧
 D.Is Int s ∧ D.len s ≤ 1048576)
 (.ret (.int .i64 (coErr (D.to Wt q) (D.to Int s)))))))))))))) := by kernel_rfl

theorem few22_in : exec Tryz.prog [] 300 (entry Tryz.prog 17 [.dat d]) =
 Tree.leaf
 (Conf.mk
 (SFrm.mk 17 none none
 [Item.inLoop (cAt Tryz.prog 17 [1, 0, 1, 0, 0]), Item.inBlock 0, Item.code (cAt Tryz.prog 17 [1, 1])]
 (mkJ 0 [(0, .dat d), (3, .int .i64 0)] 0 24))
 [] []) := by kernel_rfl

theorem most_in : exec Tryz.prog [] 600 (entry Tryz.prog 33 []) =
 Tree.leaf
 (Conf.mk
 (SFrm.mk 33 none none
 [Item.inLoop (cAt Tryz.prog 33 [1, 1, 0, 1, 0, 0]), Item.inBlock 0, Item.code (cAt Tryz.prog 33 [1, 1, 1])]
 (mkJ 0 [(1, .nils), (2, .int .i64 0)] 0 11))
 [] []) := by kernel_rfl

theorem off_in : exec Tryz.prog [] 300 (entry Tryz.prog 53 [.dat d]) =
 Tree.leaf
 (Conf.mk
 (SFrm.mk 53 none none
 [Item.inLoop (cAt Tryz.prog 53 [1, 1, 0, 1, 0, 0]), Item.inBlock 0, Item.code (cAt Tryz.prog 53 [1, 1, 1])]
 (mkJ 0 [(3, .nils), (6, .dat d), (7, .int .i64 (↑(D.len d) : Int)), (8, .int .i64 0)] 0 19))
 [] []) := by kernel_rfl


end
end Go.Proofs.YtllmgnhjljmihaaGreat
end
section
open Go Go.Proofs Sx
namespace Go.Proofs.YtllmgnhjljmihaaGreat
set_option maxRecDepth 100000
set_option maxHeartbeats 0
noncomputable def coA (d im : D) : Conf := Conf.mk (SFrm.mk 60 none none [Item.code (cAt Tryz.prog 60 [1, 1, 1, 0]), Item.code (cAt Tryz.prog 60 [1, 1, 0, 1, 0, 1])] (mkJ 0 [(0, .dat d), (5, .ptr 0 0)] 0 18)) [] [(0, OBlk.cells 103 [.dat im])]
section
variable (d im : D)
theorem coa2_in : exec Tryz.prog ctCo 300 (coA d im) =
 Tree.leaf
 (Conf.mk
 (SFrm.mk 93 none none
 [Item.inLoop (cAt Tryz.prog 93 [1, 0, 1, 0, 0]), Item.inBlock 0, Item.code (cAt Tryz.prog 93 [1, 1])]
 (mkJ 1
 [(0, .dat d), (1, SV.fn 94 [] [.ptr 0 0]), (9, .dat d), (10, .int .i64 (↑(D.len d) : Int)),
 (11, .int .i64 0)]
 0 53))
 [SFrm.mk 60 (some (opsAt Tryz.prog 60 [1, 1, 1, 0], [3])) (some 17)
 [Item.code (cAt Tryz.prog 60 [1, 1, 0, 1, 0, 1])]
 (mkJ 0 [(0, .dat d), (5, .ptr 0 0), (15, .dat d), (16, SV.fn 94 [] [.ptr 0 0])] 0 18)]
 [(0, OBlk.cells 103 [.dat im])]) := by kernel_rfl

end
end Go.Proofs.YtllmgnhjljmihaaGreat
end
section
open Go Go.Proofs Sx
namespace Go.Proofs.YtllmgnhjljmihaaGreat
set_option maxRecDepth 100000
set_option maxHeartbeats 0
noncomputable def r22L (d s : D) (j : Int) : Conf := Conf.mk (SFrm.mk 71 none none [Item.inLoop (cAt Tryz.prog 71 [1, 1, 0, 1, 0, 0]), Item.inBlock 0, Item.code (cAt Tryz.prog 71 [1, 1, 1])] (mkJ 0 [(0, .dat d), (1, .dat s), (6, .int .i64 j)] 0 69)) [] []
noncomputable def rpoL (d : D) (j : Int) : Conf := Conf.mk (SFrm.mk 70 none none [Item.inLoop (cAt Tryz.prog 70 [1, 0, 1, 0, 0]), Item.inBlock 0, Item.code (cAt Tryz.prog 70 [1, 1])] (mkJ 0 [(0, .dat d), (3, .int .i64 j)] 0 22)) [] []
noncomputable def few22L (d : D) (j : Int) : Conf := Conf.mk (SFrm.mk 17 none none [Item.inLoop (cAt Tryz.prog 17 [1, 0, 1, 0, 0]), Item.inBlock 0, Item.code (cAt Tryz.prog 17 [1, 1])] (mkJ 0 [(0, .dat d), (3, .int .i64 j)] 0 24)) [] []
noncomputable def mostL (q : D) (j : Int) : Conf := Conf.mk (SFrm.mk 33 none none [Item.inLoop (cAt Tryz.prog 33 [1, 1, 0, 1, 0, 0]), Item.inBlock 0, Item.code (cAt Tryz.prog 33 [1, 1, 1])] (mkJ 0 [(1, .vec 0), (2, .int .i64 j)] 0 11)) [] [(0, .arr 3 q)]
noncomputable def offL (d q : D) (j : Int) : Conf := Conf.mk (SFrm.mk 53 none none [Item.inLoop (cAt Tryz.prog 53 [1, 1, 0, 1, 0, 0]), Item.inBlock 0, Item.code (cAt Tryz.prog 53 [1, 1, 1])] (mkJ 0 [(3, .vec 0), (6, .dat d), (7, .int .i64 (d.len : Int)), (8, .int .i64 j)] 0 19)) [] [(0, .arr 3 q)]
section
variable (d s im q : D) (j e1 e2 e3 : Int) (v : Bool) (h : SV)
theorem r22_go : 
 let z1 : Tree := (.leaf (Conf.mk (SFrm.mk 71 none none [Item.inLoop (cAt Tryz.prog 71 [1, 1, 0, 1, 0, 0]), Item.inBlock 0, Item.code (cAt Tryz.prog 71 [1, 1, 1])] (mkJ 0 [(0, .dat d), (1, .dat s), (6, .int .i64 (IntKind.wrap .i64 (j + 1)))] 0 69)) [] []))
 let z2 := (WtD.mk (D.getInt d (Int.toNat j) 0) (D.getInt d (Int.toNat j) 1) (D.cell d (Int.toNat j) 2))
 exec Tryz.prog ctCoR 300 (unroll (r22L d s j)) =
 Tree.br (decide (j < (↑(D.len d) : Int))) (.need (0 ≤ j ∧ j < (↑(D.len d) : Int) ∧ D.sz d = 3) (.need (D.HasCells d (Int.toNat j) 0 [FT.int .i64, FT.int .i64, FT.slc]) (.need (D.Is Int s ∧ D.len s ≤ 1048576 ∧
 (∀ (n : Int), List.Mem n (D.to Int s) → 1 ≤ n ∧ n ≤ 4096) ∧ WtD.Ok z2) (.br (fitsErr (D.to Int s) (WtD.wt z2) != 0) (.ret (.int .i64 (fitsErr (D.to Int s) (WtD.wt z2)))) (.br (decide (j = 0)) z1 (.need
 (0 ≤ IntKind.wrap .i64 (j - 1) ∧ IntKind.wrap .i64 (j - 1) < (↑(D.len d) : Int) ∧ D.sz d = 3) (.need (D.HasCells d (Int.toNat (IntKind.wrap .i64 (j - 1))) 0 [FT.int .i64, FT.int .i64, FT.slc]) (.all fun hs => .br
 (decide (D.getInt d (Int.toNat j) 0 < D.getInt d (Int.toNat (IntKind.wrap .i64 (j - 1))) 0)) (.need (0 ≤ j ∧ j < (↑(D.len d) : Int) ∧ D.sz d = 3) (.need (D.HasCell d (Int.toNat j) 0 (FT.int .i64)) (.need
 (decide (D.getInt d (Int.toNat j) 0 < D.getInt d (Int.toNat (IntKind.wrap .i64 (j - 1))) 0) = true) (.need (decide (D.getInt d (Int.toNat j) 0 < D.getInt d (Int.toNat (IntKind.wrap .i64 (j - 1))) 0) = true)
 (.need (decide (D.getInt d (Int.toNat j) 0 < D.getInt d (Int.toNat (IntKind.wrap .i64 (j - 1))) 0) = true) (.need (decide (D.getInt d (Int.toNat j) 0 < D.getInt d (Int.toNat (IntKind.wrap .i64 (j - 1))) 0) = true)
 (.need (decide (D.getInt d (Int.toNat j) 0 < D.getInt d (Int.toNat (IntKind.wrap .i64 (j - 1))) 0) = true) (.need (decide (D.getInt d (Int.toNat j) 0 < D.getInt d (Int.toNat (IntKind.wrap .i64 (j - 1))) 0) = true)
 (.need (decide (D.getInt d (Int.toNat j) 0 < D.getInt d (Int.toNat (IntKind.wrap .i64 (j - 1))) 0) = true) (.need (decide (D.getInt d (Int.toNat j) 0 < D.getInt d (Int.toNat (IntKind.wrap .i64 (j - 1))) 0) = true)
 (.need (decide (D.getInt d (Int.toNat j) 0 < D.getInt d (Int.toNat (IntKind.wrap .i64 (j - 1))) 0) = true) (.need (decide (D.getInt d (Int.toNat j) 0 < D.getInt d (Int.toNat (IntKind.wrap .i64 (j - 1))) 0) = true)
 (.need (decide (D.getInt d (Int.toNat j) 0 < D.getInt d (Int.toNat (IntKind.wrap .i64 (j - 1))) 0) = true) (.ret (.int .i64 3))))))))))))))) (.br (decide (D.getInt d (Int.toNat j) 0 = D.getInt d (Int.toNat
 (IntKind.wrap .i64 (j - 1))) 0)) (.need (0 ≤ j ∧ j < (↑(D.len d) : Int) ∧ D.sz d = 3) (.need (D.HasCell d (Int.toNat j) 0 (FT.int .i64)) (.need (decide (D.getInt d (Int.toNat j) 0 < D.getInt d (Int.toNat
 (IntKind.wrap .i64 (j - 1))) 0) = false) (.need (decide (D.getInt d (Int.toNat j) 0 < D.getInt d (Int.toNat (IntKind.wrap .i64 (j - 1))) 0) = false) (.need (decide (D.getInt d (Int.toNat j) 0 < D.getInt d
 (Int.toNat (IntKind.wrap .i64 (j - 1))) 0) = false) (.need (0 ≤ j ∧ j < (↑(D.len d) : Int) ∧ D.sz d = 3) (.need (decide (D.getInt d (Int.toNat j) 0 < D.getInt d (Int.toNat (IntKind.wrap .i64 (j - 1))) 0) = false)
 (.need (decide (D.getInt d (Int.toNat j) 0 < D.getInt d (Int.toNat (IntKind.wrap .i64 (j - 1))) 0) = false) (.need (D.HasCell d (Int.toNat j) 0 (FT.int .i64)) (.need (decide (D.getInt d (Int.toNat j) 0 < D.getInt d
 (Int.toNat (IntKind.wrap .i64 (j - 1))) 0) = false) (.need (decide (D.getInt d (Int.toNat j) 0 < D.getInt d (Int.toNat (IntKind.wrap .i64 (j - 1))) 0) = false) (.need (decide (D.getInt d (Int.toNat j) 0 < D.getInt d
 (Int.toNat (IntKind.wrap .i64 (j - 1))) 0) = false) (.need (decide (D.getInt d (Int.toNat j) 0 < D.getInt d (Int.toNat (IntKind.wrap .i64 (j - 1))) 0) = false) (.need (decide (D.getInt d (Int.toNat j) 0 = D.getInt d
 (Int.toNat (IntKind.wrap .i64 (j - 1))) 0) = true) (.need (decide (D.getInt d (Int.toNat j) 0 = D.getInt d (Int.toNat (IntKind.wrap .i64 (j - 1))) 0) = true) (.need (decide (D.getInt d (Int.toNat j) 0 = D.getInt d
 (Int.toNat (IntKind.wrap .i64 (j - 1))) 0) = true) (.need (0 ≤ j ∧ j < (↑(D.len d) : Int) ∧ D.sz d = 3) (.need (decide (D.getInt d (Int.toNat j) 0 = D.getInt d (Int.toNat (IntKind.wrap .i64 (j - 1))) 0) = true)
 (.need (decide (D.getInt d (Int.toNat j) 0 = D.getInt d (Int.toNat (IntKind.wrap .i64 (j - 1))) 0) = true) (.need (D.HasCell d (Int.toNat j) 1 (FT.int .i64)) (.need (decide (D.getInt d (Int.toNat j) 0 = D.getInt d
 (Int.toNat (IntKind.wrap .i64 (j - 1))) 0) = true) (.need (decide (D.getInt d (Int.toNat j) 0 = D.getInt d (Int.toNat (IntKind.wrap .i64 (j - 1))) 0) = true) (.need (decide (D.getInt d (Int.toNat j) 0 = D.getInt d
 (Int.toNat (IntKind.wrap .i64 (j - 1))) 0) = true) (.need (decide (D.getInt d (Int.toNat j) 0 = D.getInt d (Int.toNat (IntKind.wrap .i64 (j - 1))) 0) = true) (.need (decide (D.getInt d (Int.toNat j) 0 = D.getInt d
 (Int.toNat (IntKind.wrap .i64 (j - 1))) 0) = true) (.need (decide (D.getInt d (Int.toNat j) 0 = D.getInt d (Int.toNat (IntKind.wrap .i64 (j - 1))) 0) = true) (.need (decide (D.getInt d (Int.toNat j) 0 = D.getInt d
 (Int.toNat (IntKind.wrap .i64 (j - 1))) 0) = true) (.need (decide (D.getInt d (Int.toNat j) 0 = D.getInt d (Int.toNat (IntKind.wrap .i64 (j - 1))) 0) = true) (.need (decide (D.getInt d (Int.toNat j) 0 < D.getInt d
 (Int.toNat (IntKind.wrap .i64 (j - 1))) 0) = false) (.need (decide (D.getInt d (Int.toNat j) 0 = D.getInt d (Int.toNat (IntKind.wrap .i64 (j - 1))) 0) = true) (.need (decide (D.getInt d (Int.toNat j) 0 < D.getInt d
 (Int.toNat (IntKind.wrap .i64 (j - 1))) 0) = false) (.br (decide (D.getInt d (Int.toNat j) 1 < IntKind.wrap .i64 (IntKind.wrap .i64 (D.getInt d (Int.toNat (IntKind.wrap .i64 (j - 1))) 1 + (↑(D.len (D.cell d
 (Int.toNat (IntKind.wrap .i64 (j - 1))) 2)) : Int)) + 1))) (.ret (.int .i64 3)) z1)))))))))))))))))))))))))))))))) (.need (0 ≤ j ∧ j < (↑(D.len d) : Int) ∧ D.sz d = 3) (.need (D.HasCell d (Int.toNat j) 0
 (FT.int .i64)) (.need (decide (D.getInt d (Int.toNat j) 0 < D.getInt d (Int.toNat (IntKind.wrap .i64 (j - 1))) 0) = false) (.need (decide (D.getInt d (Int.toNat j) 0 < D.getInt d (Int.toNat (IntKind.wrap .i64
 (j - 1))) 0) = false) (.need (decide (D.getInt d (Int.toNat j) 0 < D.getInt d (Int.toNat (IntKind.wrap .i64 (j - 1))) 0) = false) (.need (0 ≤ j ∧ j < (↑(D.len d) : Int) ∧ D.sz d = 3) (.need (decide (D.getInt d
 (Int.toNat j) 0 < D.getInt d (Int.toNat (IntKind.wrap .i64 (j - 1))) 0) = false) (.need (decide (D.getInt d (Int.toNat j) 0 < D.getInt d (Int.toNat (IntKind.wrap .i64 (j - 1))) 0) = false) (.need (D.HasCell d
 (Int.toNat j) 0 (FT.int .i64)) (.need (decide (D.getInt d (Int.toNat j) 0 < D.getInt d (Int.toNat (IntKind.wrap .i64 (j - 1))) 0) = false) (.need (decide (D.getInt d (Int.toNat j) 0 < D.getInt d (Int.toNat
 (IntKind.wrap .i64 (j - 1))) 0) = false) (.need (decide (D.getInt d (Int.toNat j) 0 < D.getInt d (Int.toNat (IntKind.wrap .i64 (j - 1))) 0) = false) (.need (decide (D.getInt d (Int.toNat j) 0 < D.getInt d
 (Int.toNat (IntKind.wrap .i64 (j - 1))) 0) = false) (.need (decide (D.getInt d (Int.toNat j) 0 = D.getInt d (Int.toNat (IntKind.wrap .i64 (j - 1))) 0) = false) (.need (decide (D.getInt d (Int.toNat j) 0 = D.getInt d
 (Int.toNat (IntKind.wrap .i64 (j - 1))) 0) = false) (.need (decide (D.getInt d (Int.toNat j) 0 = D.getInt d (Int.toNat (IntKind.wrap .i64 (j - 1))) 0) = false) (.need (decide (D.getInt d (Int.toNat j) 0 = D.getInt d
 (Int.toNat (IntKind.wrap .i64 (j - 1))) 0) = false) (.need (decide (D.getInt d (Int.toNat j) 0 = D.getInt d (Int.toNat (IntKind.wrap .i64 (j - 1))) 0) = false) (.need (decide (D.getInt d (Int.toNat j) 0 = D.getInt d
 (Int.toNat (IntKind.wrap .i64 (j - 1))) 0) = false) (.need (decide (D.getInt d (Int.toNat j) 0 = D.getInt d (Int.toNat (IntKind.wrap .i64 (j - 1))) 0) = false) (.need (decide (D.getInt d (Int.toNat j) 0 = D.getInt d
 (Int.toNat (IntKind.wrap .i64 (j - 1))) 0) = false) (.need (decide (D.getInt d (Int.toNat j) 0 = D.getInt d (Int.toNat (IntKind.wrap .i64 (j - 1))) 0) = false) (.need (decide (D.getInt d (Int.toNat j) 0 = D.getInt d
 (Int.toNat (IntKind.wrap .i64 (j - 1))) 0) = false) (.need (decide (D.getInt d (Int.toNat j) 0 = D.getInt d (Int.toNat (IntKind.wrap .i64 (j - 1))) 0) = false) (.need (decide (D.getInt d (Int.toNat j) 0 = D.getInt d
 (Int.toNat (IntKind.wrap .i64 (j - 1))) 0) = false) (.need (decide (D.getInt d (Int.toNat j) 0 = D.getInt d (Int.toNat (IntKind.wrap .i64 (j - 1))) 0) = false) (.need (decide (D.getInt d (Int.toNat j) 0 < D.getInt d
 (Int.toNat (IntKind.wrap .i64 (j - 1))) 0) = false) (.need (decide (D.getInt d (Int.toNat j) 0 = D.getInt d (Int.toNat (IntKind.wrap .i64 (j - 1))) 0) = false) (.need (decide (D.getInt d (Int.toNat j) 0 < D.getInt d
 (Int.toNat (IntKind.wrap .i64 (j - 1))) 0) = false) z1)))))))))))))))))))))))))))))))))))))) (.ret (.int .i64 0)) := by
 intros; kernel_rfl

theorem rpo_go : exec Tryz.prog [] 300 (unroll (rpoL d j)) =
 Tree.br (decide (j < (↑(D.len d) : Int)))
 (.need (0 ≤ j ∧ j < (↑(D.len d) : Int) ∧ D.sz d = 1)
 (.need (D.HasCell d (Int.toNat j) 0 (FT.int .i64))
 (.br (decide (D.getInt d (Int.toNat j) 0 < 0)) (.ret (.int .i64 2))
 (.need (0 ≤ j ∧ j < (↑(D.len d) : Int) ∧ D.sz d = 1)
 (.need (D.HasCell d (Int.toNat j) 0 (FT.int .i64))
 (.br (decide (D.getInt d (Int.toNat j) 0 > 1073741824)) (.ret (.int .i64 2))
 (.leaf
 (Conf.mk
 (SFrm.mk 70 none none
 [Item.inLoop (cAt Tryz.prog 70 [1, 0, 1, 0, 0]), Item.inBlock 0,
 Item.code (cAt Tryz.prog 70 [1, 1])]
 (mkJ 0 [(0, .dat d), (3, .int .i64 (IntKind.wrap .i64 (j + 1)))] 0 22))
 [] []))))))))
 (.ret (.int .i64 0)) := by kernel_rfl

theorem few22_go : exec Tryz.prog [] 300 (unroll (few22L d j)) =
 Tree.br (decide (j < (↑(D.len d) : Int)))
 (.br (decide (j < 60))
 (.need (0 ≤ j ∧ j < (↑(D.len d) : Int) ∧ D.sz d = 3)
 (.need (D.HasCell d (Int.toNat j) 2 FT.slc)
 (.br (decide ((↑(D.len (D.cell d (Int.toNat j) 2)) : Int) > 24)) (.ret (.lb false))
 (.leaf
 (Conf.mk
 (SFrm.mk 17 none none
 [Item.inLoop (cAt Tryz.prog 17 [1, 0, 1, 0, 0]), Item.inBlock 0, Item.code (cAt Tryz.prog 17 [1, 1])]
 (mkJ 0 [(0, .dat d), (3, .int .i64 (IntKind.wrap .i64 (j + 1)))] 0 24))
 [] [])))))
 (.ret (.bool (decide ((↑(D.len d) : Int) ≤ 40)))))
 (.ret (.bool (decide ((↑(D.len d) : Int) ≤ 40)))) := by kernel_rfl

theorem most_go : exec Tryz.prog [] 300 (unroll (mostL q j)) =
 Tree.br (decide (j < 8))
 (.all fun hs =>
 .need
 (D.sz q = 1 ∧
 D.Fits (D.slc (D.hd (hs 0 0)) 1 [[D.int .i64 4096]]) 1 ∧
 (D.len q + D.len (D.slc (D.hd (hs 0 0)) 1 [[D.int .i64 4096]])) * 8 ≤ 140737488355328 ∧
 D.len q + D.len (D.slc (D.hd (hs 0 0)) 1 [[D.int .i64 4096]]) ≤ 9223372036854775807)
 (.all fun hs_1 =>
 .leaf
 (Conf.mk
 (SFrm.mk 33 none none
 [Item.inLoop (cAt Tryz.prog 33 [1, 1, 0, 1, 0, 0]), Item.inBlock 0,
 Item.code (cAt Tryz.prog 33 [1, 1, 1])]
 (mkJ 0 [(1, .vec 0), (2, .int .i64 (IntKind.wrap .i64 (j + 1)))] 0 11))
 []
 [(0,
 OBlk.arr 3
 (D.slc (D.hd (hs_1 0 0)) 1
 (List.append (D.rows q) (D.rows (D.slc (D.hd (hs 0 0)) 1 [[D.int .i64 4096]])))))])))
 (.ret (.dat q)) := by kernel_rfl

theorem off_go : exec Tryz.prog [] 300 (unroll (offL d q j)) =
 Tree.br (decide (j < (↑(D.len d) : Int)))
 (.need (0 ≤ j ∧ j < (↑(D.len d) : Int) ∧ D.sz d = 5)
 (.need
 (D.HasCells d (Int.toNat j) 0 [FT.int .i64, FT.int .i64, FT.int .i64, FT.slc, FT.slc])
 (.all fun hs =>
 .need
 (D.sz q = 1 ∧
 D.Fits (D.slc (D.hd (hs 0 0)) 1 [[D.int .i64 (D.getInt d (Int.toNat j) 1)]]) 1 ∧
 (D.len q + D.len (D.slc (D.hd (hs 0 0)) 1 [[D.int .i64 (D.getInt d (Int.toNat j) 1)]])) * 8 ≤
 140737488355328 ∧
 D.len q + D.len (D.slc (D.hd (hs 0 0)) 1 [[D.int .i64 (D.getInt d (Int.toNat j) 1)]]) ≤
 9223372036854775807)
 (.all fun hs_1 =>
 .leaf
 (Conf.mk
 (SFrm.mk 53 none none
 [Item.inLoop (cAt Tryz.prog 53 [1, 1, 0, 1, 0, 0]), Item.inBlock 0,
 Item.code (cAt Tryz.prog 53 [1, 1, 1])]
 (mkJ 0
 [(3, .vec 0), (6, .dat d), (7, .int .i64 (↑(D.len d) : Int)),
 (8, .int .i64 (IntKind.wrap .i64 (j + 1)))]
 0 19))
 []
 [(0,
 OBlk.arr 3
 (D.slc (D.hd (hs_1 0 0)) 1
 (List.append (D.rows q)
 (D.rows (D.slc (D.hd (hs 0 0)) 1 [[D.int .i64 (D.getInt d (Int.toNat j) 1)]])))))])))))
 (.ret (.dat q)) := by kernel_rfl

end
end Go.Proofs.YtllmgnhjljmihaaGreat
end
section
open Go Go.Proofs Sx
namespace Sx
theorem any_take_succ {α : Type} {l : List α} {f : α → Bool} {j : Nat} (hj : j < l.length) : (l.take (j + 1)).any f = ((l.take j).any f || f l[j]) := by
  rw [List.take_succ_eq_append_getElem hj, List.any_append]; simp
end Sx
namespace Go.Proofs.YtllmgnhjljmihaaGreat
set_option maxRecDepth 100000
set_option maxHeartbeats 0
theorem lawPosR : Law Tryz.prog 70 (rdD.one.sp spPos) := by
  refine law_in _ (by kernel_rfl) fun H w d hok hp => ?_
  obtain ⟨hd, hlen⟩ := hp _ (List.mem_singleton.2 rfl)
  have hl := D.Is.length (α := Int) d
  apply exec_sound (noCtr _) 300
  rw [show rdD.one.canon d = [.dat d] from rfl, rpo_in]
  refine runs_loop (fun j : Nat => rpoL d j) (fun j => j ≤ (d.to Int).length ∧ ((d.to Int).take j).any badTime = false) (fun j => (d.to Int).length - j) (fun _ => rfl) ?_ 0 ⟨Nat.zero_le _, by simp⟩
  intro j ⟨hj, hpre⟩ ih
  apply exec_sound (noCtr _) 300
  rw [rpo_go]
  have bad : ∀ hc : j < (d.to Int).length, badTime (d.to Int)[j] = true → posT (d.to Int) = 2 := fun hc hb => by
    unfold posT
    rw [if_pos (List.any_eq_true.2 ⟨_, List.getElem_mem hc, hb⟩)]
  refine ⟨fun hc => ?_, fun hc => ?_⟩
  · have hc : j < (d.to Int).length := by have := of_decide_eq_true hc; omega
    obtain ⟨c1, c2, c3⟩ := int_at hd hc
    rw [c3]
    refine ⟨c1, c2, fun h1 => ret_int ?_, fun h1 => ⟨c1, c2, fun h2 => ret_int ?_, fun h2 => ?_⟩⟩
    · exact (bad hc (by unfold badTime; rw [h1]; rfl)).symm
    · exact (bad hc (by unfold badTime; rw [h2]; simp)).symm
    · have := ih (j + 1) ⟨hc, by rw [any_take_succ hc, hpre]; unfold badTime; rw [h1, h2]; rfl⟩ (by omega)
      rw [← wrap_succ hc (by omega)] at this
      exact this
  · have : j = (d.to Int).length := by have := of_decide_eq_false hc; omega
    subst this
    rw [List.take_length] at hpre
    exact ret_int (by unfold posT; rw [if_neg (by simp [hpre])])
theorem lawMostR : Law Tryz.prog 33 (rdNone.sp spMost) := by
  refine law_in _ (by kernel_rfl) fun H w _ hok hp => ?_
  apply exec_sound (noCtr _) 600
  rw [show rdNone.canon _ = [] from rfl, most_in]
  refine vecIn_to 0 3 1 none 1 (mostL (.slc none 1 []) 0) (by kernel_rfl) ?_
  refine runs_loop (fun p : D × Nat => mostL p.1 p.2) (fun p => p.2 ≤ 8 ∧ p.1.Is Int ∧ p.1.sz = 1 ∧ p.1.to Int = List.replicate p.2 4096) (fun p => 8 - p.2) (fun _ => rfl) ?_ (.slc none 1 [], 0) ⟨Nat.zero_le _, is_nil _ _, rfl, rfl⟩
  intro ⟨o, j⟩ ⟨hj, ho, hz, hto⟩ ih
  simp only at hj ho hz hto
  have hol := D.Is.length (α := Int) o
  rw [hto, List.length_replicate] at hol
  apply exec_sound (noCtr _) 300
  rw [most_go]
  refine ⟨fun hc hs1 => ⟨⟨hz, .inr rfl, by simp only [len_slc, List.length_cons, List.length_nil]; omega, by simp only [len_slc, List.length_cons, List.length_nil]; omega⟩, fun hs3 => ?_⟩, fun hc => ?_⟩
  · have hc : j < 8 := by have := of_decide_eq_true hc; omega
    have hr := rows_app (rows_of ho) (int_one 4096)
    obtain ⟨i1, i2⟩ := is_of (h := D.hd (hs3 0 0)) (s := 1) rfl hr
    have := ih (_, j + 1) ⟨hc, i1, rfl, i2.trans (by rw [hto, List.replicate_succ'])⟩ (by simp only; omega)
    simp only at this
    rw [← wrap_succ hc (by omega)] at this
    exact this
  · have : j = 8 := by have := of_decide_eq_false hc; omega
    subst this
    exact ret_one (stands_dat ho hto) rfl
theorem lawFewWR : Law Tryz.prog 17 (rdD.one.sp spFewW) := by
  refine law_in _ (by kernel_rfl) fun H w d hok hp => ?_
  have hd : d.Is Wt := hp _ (List.mem_singleton.2 rfl)
  have hl := D.Is.length (α := Wt) d
  apply exec_sound (noCtr _) 300
  rw [show rdD.one.canon d = [.dat d] from rfl, few22_in]
  refine runs_loop (fun j : Nat => few22L d j) (fun j => j ≤ 60 ∧ j ≤ (d.to Wt).length ∧ ((d.to Wt).take j).any (fun w => decide (w.data.length > 24)) = false) (fun j => (d.to Wt).length - j) (fun _ => rfl) ?_ 0 ⟨Nat.zero_le _, Nat.zero_le _, by simp⟩
  intro j ⟨hj6, hj, hpre⟩ ih
  apply exec_sound (noCtr _) 300
  rw [few22_go]
  have done : ((d.to Wt).take 60).any (fun w => decide (w.data.length > 24)) = false → (Tree.ret (SV.bool (decide ((d.len : Int) ≤ 40)))).holds Tryz.prog ⟨w, H⟩ (RetS w H (.bool (fewW (d.to Wt)))) := fun h => ret_bool (by
    unfold fewW
    rw [h]
    simp only [Bool.not_false, Bool.true_and]
    apply decide_eq_decide.2; omega)
  refine ⟨fun hc => ⟨fun h6 => ?_, fun h6 => done ?_⟩, fun hc => done ?_⟩
  · have hc : j < (d.to Wt).length := by have := of_decide_eq_true hc; omega
    have h6 := of_decide_eq_true h6
    obtain ⟨c1, c2, c3⟩ := wt_cell hd hc
    have dl : (d.cell j 2).len = ((d.to Wt)[j]).data.length := by
      rw [D.Is.length (α := Sec), c3]
    rw [Int.toNat_natCast]
    refine ⟨⟨by omega, by omega, hd.size hc⟩, c1.2.2.1, fun h1 => ret_lb ?_, fun h1 => ?_⟩
    · have h1 := of_decide_eq_true h1
      unfold fewW
      have : ((d.to Wt).take 60).any (fun w => decide (w.data.length > 24)) = true := List.any_eq_true.2 ⟨(d.to Wt)[j], List.mem_take_iff_getElem.2 ⟨j, by omega, rfl⟩, decide_eq_true (by omega)⟩
      rw [this]; rfl
    · have h1 := of_decide_eq_false h1
      have := ih (j + 1) ⟨by omega, hc, by rw [any_take_succ hc, hpre]; simp; omega⟩ (by omega)
      rw [← wrap_succ (n := 60) (by omega) (by omega)] at this
      exact this
  · have h6 := of_decide_eq_false h6
    have : j = 60 := by omega
    subst this
    exact hpre
  · have : j = (d.to Wt).length := by have := of_decide_eq_false hc; omega
    subst this
    rw [List.take_of_length_le (by omega)]
    rw [List.take_length] at hpre
    exact hpre
theorem lawOff : Law Tryz.prog 53 (rdD.one.sp spOff) := by
  refine law_in _ (by kernel_rfl) fun H w d hok hp => ?_
  obtain ⟨hd, hlen⟩ := hp _ (List.mem_singleton.2 rfl)
  have hl := D.Is.length (α := Cy) d
  apply exec_sound (noCtr _) 300
  rw [show rdD.one.canon d = [.dat d] from rfl, off_in]
  refine vecIn_to 0 3 1 none 3 (offL d (.slc none 1 []) 0) (by kernel_rfl) ?_
  refine runs_loop (fun p : D × Nat => offL d p.1 p.2) (fun p => p.2 ≤ (d.to Cy).length ∧ p.1.Is Int ∧ p.1.sz = 1 ∧ p.1.to Int = ((d.to Cy).take p.2).map Cy.number) (fun p => (d.to Cy).length - p.2) (fun _ => rfl) ?_ (.slc none 1 [], 0) ⟨Nat.zero_le _, is_nil _ _, rfl, rfl⟩
  intro ⟨o, j⟩ ⟨hj, ho, hz, hto⟩ ih
  simp only at hj ho hz hto
  have hol := D.Is.length (α := Int) o
  rw [hto] at hol
  simp only [List.length_map, List.length_take] at hol
  apply exec_sound (noCtr _) 300
  rw [off_go]
  refine ⟨fun hc => ?_, fun hc => ?_⟩
  · have hc : j < (d.to Cy).length := by have := of_decide_eq_true hc; omega
    obtain ⟨c1, _, _, c3⟩ := cy_cell hd hc
    refine ⟨⟨by omega, by omega, hd.size hc⟩, c1, fun hs1 => ⟨⟨hz, .inr rfl, by simp only [len_slc, List.length_cons, List.length_nil]; omega, by simp only [len_slc, List.length_cons, List.length_nil]; omega⟩, fun hs3 => ?_⟩⟩
    have hr := rows_app (rows_of ho) (int_one (d.getInt j 1))
    obtain ⟨i1, i2⟩ := is_of (h := D.hd (hs3 0 0)) (s := 1) rfl hr
    have := ih (_, j + 1) ⟨hc, i1, rfl, i2.trans (by rw [hto, map_take_snoc _ hc, c3]; rfl)⟩ (by simp only; omega)
    simp only at this
    rw [← wrap_succ hc (by omega)] at this
    exact this
  · have : j = (d.to Cy).length := by have := of_decide_eq_false hc; omega
    subst this
    rw [List.take_length] at hto
    exact ret_one (stands_dat ho hto) rfl
end Go.Proofs.YtllmgnhjljmihaaGreat
end
section
open Go Go.Proofs Sx
namespace Go.Proofs.YtllmgnhjljmihaaGreat
set_option maxRecDepth 100000
set_option maxHeartbeats 0
noncomputable def coaL (d im : D) (j : Int) : Conf := Conf.mk (SFrm.mk 93 none none [Item.inLoop (cAt Tryz.prog 93 [1, 0, 1, 0, 0]), Item.inBlock 0, Item.code (cAt Tryz.prog 93 [1, 1])] (mkJ 1 [(0, .dat d), (1, SV.fn 94 [] [.ptr 0 0]), (9, .dat d), (10, .int .i64 (d.len : Int)), (11, .int .i64 j)] 0 53)) [SFrm.mk 60 (some (opsAt Tryz.prog 60 [1, 1, 1, 0], [3])) (some 17) [Item.code (cAt Tryz.prog 60 [1, 1, 0, 1, 0, 1])] (mkJ 0 [(0, .dat d), (5, .ptr 0 0), (15, .dat d), (16, SV.fn 94 [] [.ptr 0 0])] 0 18)] [(0, OBlk.cells 103 [.dat im])]
noncomputable def cpoA (d : D) : Conf := Conf.mk (SFrm.mk 103 none none [Item.inLoop (cAt Tryz.prog 103 [1, 0, 1, 0, 0]), Item.inBlock 0, Item.code (cAt Tryz.prog 103 [1, 1])] (mkJ 0 [(0, .dat d), (1, SV.fn 92 [] []), (7, .int .i64 (d.len : Int)), (8, .int .i64 0)] 0 19)) [] []
noncomputable def cpoL (d : D) (j : Int) : Conf := Conf.mk (SFrm.mk 103 none none [Item.inLoop (cAt Tryz.prog 103 [1, 0, 1, 0, 0]), Item.inBlock 0, Item.code (cAt Tryz.prog 103 [1, 1])] (mkJ 0 [(0, .dat d), (1, SV.fn 92 [] []), (7, .int .i64 (d.len : Int)), (8, .int .i64 j)] 0 19)) [] []
section
variable (d im : D) (j n : Int)
theorem coa_go : 
 let z1 : Tree := (.leaf (Conf.mk (SFrm.mk 93 none none [Item.inLoop (cAt Tryz.prog 93 [1, 0, 1, 0, 0]), Item.inBlock 0, Item.code (cAt Tryz.prog 93 [1, 1])] (mkJ 1 [(0, .dat d), (1, SV.fn 94 [] [.ptr 0 0]), (9, .dat d), (10, .int .i64 (↑(D.len d) : Int)), (11, .int .i64 (IntKind.wrap .i64 (j + 1)))] 0 53)) [SFrm.mk 60 (some (opsAt Tryz.prog 60 [1, 1, 1, 0], [3])) (some 17) [Item.code (cAt Tryz.prog 60 [1, 1, 0, 1, 0, 1])] (mkJ 0 [(0, .dat d), (5, .ptr 0 0), (15, .dat d), (16, SV.fn 94 [] [.ptr 0 0])] 0 18)] [(0, OBlk.cells 103 [.dat im])]))
 let z2 := (WtD.mk (D.getInt d (Int.toNat j) 0) (D.getInt d (Int.toNat j) 1) (D.cell d (Int.toNat j) 2))
 exec Tryz.prog ctCo 300 (unroll (coaL d im j)) =
 Tree.br (decide (j < (↑(D.len d) : Int))) (.need (0 ≤ j ∧ j < (↑(D.len d) : Int) ∧ D.sz d = 3) (.need (D.HasCells d (Int.toNat j) 0 [FT.int .i64, FT.int .i64, FT.slc]) (.need (ImgOk im ∧ WtD.Ok z2) (.br
 (fitsI (D.to Vol im) (WtD.wt z2) != 0) (.ret (.int .i64 (fitsI (D.to Vol im) (WtD.wt z2)))) (.br (decide (j = 0)) z1 (.need (0 ≤ IntKind.wrap .i64 (j - 1) ∧ IntKind.wrap .i64 (j - 1) < (↑(D.len d) : Int) ∧ D.sz d = 3)
 (.need (D.HasCells d (Int.toNat (IntKind.wrap .i64 (j - 1))) 0 [FT.int .i64, FT.int .i64, FT.slc]) (.br (decide (D.getInt d (Int.toNat j) 0 < D.getInt d (Int.toNat (IntKind.wrap .i64 (j - 1))) 0)) (.ret
 (.int .i64 3)) (.br (decide (D.getInt d (Int.toNat j) 0 = D.getInt d (Int.toNat (IntKind.wrap .i64 (j - 1))) 0)) (.br (decide (D.getInt d (Int.toNat j) 1 ≤ IntKind.wrap .i64 (D.getInt d (Int.toNat (IntKind.wrap .i64
 (j - 1))) 1 + (↑(D.len (D.cell d (Int.toNat (IntKind.wrap .i64 (j - 1))) 2)) : Int)))) (.ret (.int .i64 3)) z1) z1))))))))) (.ret (.int .i64 0)) := by
 intros; kernel_rfl

theorem ixt_in : exec Tryz.prog [] 300 (entry Tryz.prog 103 [.dat d, .fn 92 [] []]) =
 Tree.leaf
 (Conf.mk
 (SFrm.mk 103 none none
 [Item.inLoop (cAt Tryz.prog 103 [1, 0, 1, 0, 0]), Item.inBlock 0, Item.code (cAt Tryz.prog 103 [1, 1])]
 (mkJ 0 [(0, .dat d), (1, SV.fn 92 [] []), (7, .int .i64 (↑(D.len d) : Int)), (8, .int .i64 0)]
 0 19))
 [] []) := by kernel_rfl

theorem ixt_go : exec Tryz.prog [] 300 (unroll (cpoL d j)) =
 Tree.br (decide (j < (↑(D.len d) : Int)))
 (.need (0 ≤ j ∧ j < (↑(D.len d) : Int) ∧ D.sz d = 1)
 (.need (D.HasCell d (Int.toNat j) 0 (FT.int .i64))
 (.br (decide (D.getInt d (Int.toNat j) 0 ≥ 0))
 (.br (!decide (D.getInt d (Int.toNat j) 0 ≤ 1073741824)) (.ret (.int .i64 j))
 (.leaf
 (Conf.mk
 (SFrm.mk 103 none none
 [Item.inLoop (cAt Tryz.prog 103 [1, 0, 1, 0, 0]), Item.inBlock 0, Item.code (cAt Tryz.prog 103 [1, 1])]
 (mkJ 0
 [(0, .dat d), (1, SV.fn 92 [] []), (7, .int .i64 (↑(D.len d) : Int)),
 (8, .int .i64 (IntKind.wrap .i64 (j + 1)))]
 0 19))
 [] [])))
 (.ret (.int .i64 j)))))
 (.ret (.int .i64 (Int.neg 1))) := by kernel_rfl

theorem cpo2_in : exec Tryz.prog [(103, ctrOf ((rdD.two (rdFn 92)).sp spIxT))] 300 (entry Tryz.prog 59 [.dat d, .int .i64 n]) =
 Tree.br (decide ((↑(D.len d) : Int) ≥ n))
 (.br (!decide ((↑(D.len d) : Int) ≤ 8)) (.ret (.int .i64 6))
 (.need (D.Is Int d ∧ D.len d ≤ 1048576)
 (.br (decide (idxG (D.to Int d) badTime ≥ 0)) (.ret (.int .i64 2))
 (.ret (.int .i64 0)))))
 (.ret (.int .i64 6)) := by kernel_rfl

end
end Go.Proofs.YtllmgnhjljmihaaGreat
end
section
open Go Go.Proofs Sx
namespace Go.Proofs.YtllmgnhjljmihaaGreat
set_option maxRecDepth 100000
set_option maxHeartbeats 0
theorem ctCoOk : Ctrs.Ok Tryz.prog ctCo := by
  intro x hx
  rcases List.mem_cons.1 hx with rfl | hx
  · exact ctrOf_ok lawNewI
  · rw [List.mem_singleton.1 hx]; exact ctrOf_ok lawFitsI
theorem lawCo : Law Tryz.prog 60 ((rdD.two rdD).sp spCo) := by
  refine law_in _ (by kernel_rfl) fun H w ⟨d, s⟩ hok hp => ?_
  obtain ⟨hd, hdl, hdd, hs, hsl⟩ := hp _ (List.mem_singleton.2 rfl)
  simp only at hd hdl hdd hs hsl
  have dl := D.Is.length (α := Wt) d
  apply goS_sound ctCoOk _ _ 300
  rw [show (rdD.two rdD).canon (d, s) = [.dat d, .dat s] from rfl, coa_in]
  refine ⟨⟨hs, hsl⟩, fun hs0 => ⟨fun hc => ret_int ?_, fun hc => ?_⟩⟩
  · show _ = coErr (d.to Wt) (s.to Int)
    unfold coErr; rw [if_pos (by simpa using hc)]
  have h0 : sizesErr (s.to Int) = 0 := by simpa using hc
  have him := img_ok h0 (hs0 0 0)
  have hit := D.like_to (hs0 0 0) (imgOf (s.to Int))
  generalize D.like (hs0 0 0) (imgOf (s.to Int)) = im at him hit
  have hco : coErr (d.to Wt) (s.to Int) = canonErr (s.to Int) none (d.to Wt) := by unfold coErr; rw [if_neg (by simp [h0])]
  show Runs Tryz.prog ⟨w, H⟩ (coA d im) (RetS w H (.int .i64 (coErr (d.to Wt) (s.to Int))))
  rw [hco]
  apply exec_sound ctCoOk 300
  rw [coa2_in]
  show Runs Tryz.prog ⟨w, H⟩ (coaL d im ((0 : Nat) : Int)) _
  refine runs_loop (fun j : Nat => coaL d im (j : Int)) (fun j => j ≤ (d.to Wt).length ∧ canonErr (s.to Int) none ((d.to Wt).take j) = 0) (fun j => (d.to Wt).length - j) (fun _ => rfl) ?_ 0 ⟨Nat.zero_le _, rfl⟩
  rintro j ⟨hj, hpre⟩ ih
  apply exec_sound ctCoOk 300
  rw [coa_go]
  refine ⟨fun hc => ?_, fun hc => ?_⟩
  · have hc : j < (d.to Wt).length := by have := of_decide_eq_true hc; omega
    obtain ⟨c1, c2, c3⟩ := wt_cell hd hc
    have c2 : (D.cell d (Int.toNat (j : Int)) 2).Is Sec := c2
    have hdj := hdd _ (List.getElem_mem hc)
    have e0 : (WtD.mk (D.getInt d (Int.toNat (j : Int)) 0) (D.getInt d (Int.toNat (j : Int)) 1) (D.cell d (Int.toNat (j : Int)) 2)).wt = (d.to Wt)[j] := c3.symm
    have hw2 : (D.cell d (Int.toNat (j : Int)) 2).len ≤ 1048576 := by
      rw [D.Is.length (α := Sec)]
      have := congrArg (fun w => w.data.length) e0
      simp only [WtD.wt] at this
      rw [this]; exact hdj
    have ev : D.getInt d (Int.toNat (j : Int)) 0 = ((d.to Wt)[j]).vol := by rw [← e0]; rfl
    have es : D.getInt d (Int.toNat (j : Int)) 1 = ((d.to Wt)[j]).start := by rw [← e0]; rfl
    have sn : canonErr (s.to Int) none ((d.to Wt).take (j + 1)) = if fitsErr (s.to Int) (d.to Wt)[j] ≠ 0 then fitsErr (s.to Int) (d.to Wt)[j] else if cyBad (lastW none ((d.to Wt).take j)) (d.to Wt)[j] = true then 3 else 0 := by
      rw [List.take_succ_eq_append_getElem hc, canon_snoc, if_neg (by simp [hpre])]
    have hfi : fitsI (im.to Vol) (d.to Wt)[j] = fitsErr (s.to Int) (d.to Wt)[j] := by rw [hit, fitsI_img h0]
    have bad : canonErr (s.to Int) none ((d.to Wt).take (j + 1)) ≠ 0 → canonErr (s.to Int) none (d.to Wt) = canonErr (s.to Int) none ((d.to Wt).take (j + 1)) := canon_take
    have wj : IntKind.i64.wrap ((j : Int) + 1) = ((j + 1 : Nat) : Int) := wrap_succ hc (by omega)
    rw [e0, hfi, wj]
    have nxt : canonErr (s.to Int) none ((d.to Wt).take (j + 1)) = 0 → Runs Tryz.prog ⟨w, H⟩ (coaL d im ((j + 1 : Nat) : Int)) (RetS w H (.int .i64 (canonErr (s.to Int) none (d.to Wt)))) := fun h => ih (j + 1) ⟨hc, h⟩ (by omega)
    refine ⟨⟨by omega, by omega, hd.size hc⟩, c1, ⟨him, c2, hw2⟩, fun h1 => ret_int ?_, fun h1 => ⟨fun hz => ?_, fun hz => ?_⟩⟩
    · have h1 : fitsErr (s.to Int) (d.to Wt)[j] ≠ 0 := by simpa using h1
      rw [if_pos h1] at sn
      rw [bad (by rw [sn]; exact h1), sn]
    · have h1 : fitsErr (s.to Int) (d.to Wt)[j] = 0 := by simpa using h1
      have hz := of_decide_eq_true hz
      have hj0 : j = 0 := by omega
      refine nxt ?_
      rw [sn, if_neg (by simp [h1])]
      subst hj0
      rfl
    · have h1 : fitsErr (s.to Int) (d.to Wt)[j] = 0 := by simpa using h1
      rw [if_neg (by simp [h1])] at sn
      have hz := of_decide_eq_false hz
      obtain ⟨i, rfl⟩ : ∃ i, j = i + 1 := ⟨j - 1, by omega⟩
      have hci : i < (d.to Wt).length := by omega
      obtain ⟨b1, b2, b3⟩ := wt_cell hd hci
      have wi : IntKind.i64.wrap (((i + 1 : Nat) : Int) - 1) = (i : Int) := by rw [wrap64 (by omega) (by omega)]; omega
      have f0 : (WtD.mk (D.getInt d i 0) (D.getInt d i 1) (D.cell d i 2)).wt = (d.to Wt)[i] := b3.symm
      have fv : D.getInt d i 0 = ((d.to Wt)[i]).vol := by rw [← f0]; rfl
      have fs : D.getInt d i 1 = ((d.to Wt)[i]).start := by rw [← f0]; rfl
      have b2 : (D.cell d i 2).Is Sec := b2
      have fd : (D.cell d i 2).len = ((d.to Wt)[i]).data.length := by rw [D.Is.length (α := Sec), ← f0]; rfl
      have hdi := hdd _ (List.getElem_mem hci)
      have hfit : fitsErr (s.to Int) (d.to Wt)[i] = 0 := by
        have := canon_snoc (s.to Int) ((d.to Wt).take i) none (d.to Wt)[i]
        rw [← List.take_succ_eq_append_getElem hci, hpre] at this
        apply Classical.byContradiction
        intro hne
        by_cases hq : canonErr (s.to Int) none ((d.to Wt).take i) ≠ 0
        · rw [if_pos hq] at this; exact hq this.symm
        · rw [if_neg hq, if_pos hne] at this; exact hne this.symm
      have hst : 0 ≤ ((d.to Wt)[i]).start ∧ ((d.to Wt)[i]).start ≤ 4096 := by
        have hmax := (sizesErr_ok h0).2.2
        unfold fitsErr at hfit
        split at hfit
        · exact absurd hfit (by decide)
        · rename_i q1
          split at hfit
          · exact absurd hfit (by decide)
          · split at hfit
            · exact absurd hfit (by decide)
            · rename_i q2 q3
              have hv : ((d.to Wt)[i]).vol.toNat < (s.to Int).length := by omega
              have hm := hmax _ (List.getElem_mem hv)
              have hg : (s.to Int).getD ((d.to Wt)[i]).vol.toNat 0 = (s.to Int)[((d.to Wt)[i]).vol.toNat] := by rw [List.getD_eq_getElem?_getD, List.getElem?_eq_getElem hv]; rfl
              rw [hg] at q3
              omega
      rw [lastW_take hci] at sn
      rw [wi, Int.toNat_natCast i, ev, es, fv, fs, fd]
      have wsum : IntKind.i64.wrap (((d.to Wt)[i]).start + (((d.to Wt)[i]).data.length : Int)) = ((d.to Wt)[i]).start + (((d.to Wt)[i]).data.length : Int) := wrap64 (by omega) (by omega)
      rw [wsum]
      refine ⟨⟨by omega, by omega, hd.size hci⟩, b1, fun k1 => ret_int ?_, fun k1 => ⟨fun k2 => ⟨fun k3 => ret_int ?_, fun k3 => ?_⟩, fun k2 => ?_⟩⟩
      · rw [if_pos (by unfold cyBad; simp only; rw [k1]; rfl)] at sn
        rw [bad (by rw [sn]; decide), sn]
      · rw [if_pos (by unfold cyBad; simp only; rw [k2, k3]; simp)] at sn
        rw [bad (by rw [sn]; decide), sn]
      · rw [if_neg (by unfold cyBad; simp only; rw [k1, k2, k3]; simp)] at sn
        exact nxt sn
      · rw [if_neg (by unfold cyBad; simp only; rw [k1, k2]; simp)] at sn
        exact nxt sn
  · have : j = (d.to Wt).length := by have := of_decide_eq_false hc; omega
    subst this
    rw [List.take_length] at hpre
    exact ret_int hpre.symm
end Go.Proofs.YtllmgnhjljmihaaGreat
end
section
open Go Go.Proofs Sx
namespace Go.Proofs.YtllmgnhjljmihaaGreat
set_option maxRecDepth 100000
set_option maxHeartbeats 0
theorem ctCoROk : Ctrs.Ok Tryz.prog ctCoR := by
  intro x hx
  rcases List.mem_cons.1 hx with rfl | hx
  · exact ctrOf_ok lawSizesR
  · rw [List.mem_singleton.1 hx]; exact ctrOf_ok lawFitsR
theorem lawCoR : Law Tryz.prog 71 ((rdD.two rdD).sp spCo) := by
  refine law_in _ (by kernel_rfl) fun H w ⟨d, s⟩ hok hp => ?_
  obtain ⟨hd, hdl, hdd, hs, hsl⟩ := hp _ (List.mem_singleton.2 rfl)
  simp only at hd hdl hdd hs hsl
  have dl := D.Is.length (α := Wt) d
  apply exec_sound ctCoROk 300
  rw [show (rdD.two rdD).canon (d, s) = [.dat d, .dat s] from rfl, r22_in]
  refine ⟨⟨hs, hsl⟩, fun hc => ret_int ?_, fun hc => ?_⟩
  · show _ = coErr (d.to Wt) (s.to Int)
    unfold coErr; rw [if_pos (by simpa using hc)]
  have h0 : sizesErr (s.to Int) = 0 := by simpa using hc
  have hco : coErr (d.to Wt) (s.to Int) = canonErr (s.to Int) none (d.to Wt) := by unfold coErr; rw [if_neg (by simp [h0])]
  show Runs Tryz.prog ⟨w, H⟩ (r22L d s ((0 : Nat) : Int)) (RetS w H (.int .i64 (coErr (d.to Wt) (s.to Int))))
  rw [hco]
  refine runs_loop (fun j : Nat => r22L d s (j : Int)) (fun j => j ≤ (d.to Wt).length ∧ canonErr (s.to Int) none ((d.to Wt).take j) = 0) (fun j => (d.to Wt).length - j) (fun _ => rfl) ?_ 0 ⟨Nat.zero_le _, rfl⟩
  rintro j ⟨hj, hpre⟩ ih
  apply exec_sound ctCoROk 300
  rw [r22_go]
  refine ⟨fun hc => ?_, fun hc => ?_⟩
  · have hc : j < (d.to Wt).length := by have := of_decide_eq_true hc; omega
    obtain ⟨c1, c2, c3⟩ := wt_cell hd hc
    have c2 : (D.cell d (Int.toNat (j : Int)) 2).Is Sec := c2
    have hdj := hdd _ (List.getElem_mem hc)
    have e0 : (WtD.mk (D.getInt d (Int.toNat (j : Int)) 0) (D.getInt d (Int.toNat (j : Int)) 1) (D.cell d (Int.toNat (j : Int)) 2)).wt = (d.to Wt)[j] := c3.symm
    have hw2 : (D.cell d (Int.toNat (j : Int)) 2).len ≤ 1048576 := by
      rw [D.Is.length (α := Sec)]
      have := congrArg (fun w => w.data.length) e0
      simp only [WtD.wt] at this
      rw [this]; exact hdj
    have ev : D.getInt d (Int.toNat (j : Int)) 0 = ((d.to Wt)[j]).vol := by rw [← e0]; rfl
    have es : D.getInt d (Int.toNat (j : Int)) 1 = ((d.to Wt)[j]).start := by rw [← e0]; rfl
    have sn : canonErr (s.to Int) none ((d.to Wt).take (j + 1)) = if fitsErr (s.to Int) (d.to Wt)[j] ≠ 0 then fitsErr (s.to Int) (d.to Wt)[j] else if cyBad (lastW none ((d.to Wt).take j)) (d.to Wt)[j] = true then 3 else 0 := by
      rw [List.take_succ_eq_append_getElem hc, canon_snoc, if_neg (by simp [hpre])]
    have bad : canonErr (s.to Int) none ((d.to Wt).take (j + 1)) ≠ 0 → canonErr (s.to Int) none (d.to Wt) = canonErr (s.to Int) none ((d.to Wt).take (j + 1)) := canon_take
    have wj : IntKind.i64.wrap ((j : Int) + 1) = ((j + 1 : Nat) : Int) := wrap_succ hc (by omega)
    rw [e0, wj]
    have nxt : canonErr (s.to Int) none ((d.to Wt).take (j + 1)) = 0 → Runs Tryz.prog ⟨w, H⟩ (r22L d s ((j + 1 : Nat) : Int)) (RetS w H (.int .i64 (canonErr (s.to Int) none (d.to Wt)))) := fun h => ih (j + 1) ⟨hc, h⟩ (by omega)
    refine ⟨⟨by omega, by omega, hd.size hc⟩, c1, ⟨hs, hsl, (sizesErr_ok h0).2.2, c2, hw2⟩, fun h1 => ret_int ?_, fun h1 => ⟨fun hz => ?_, fun hz => ?_⟩⟩
    · have h1 : fitsErr (s.to Int) (d.to Wt)[j] ≠ 0 := by simpa using h1
      rw [if_pos h1] at sn
      rw [bad (by rw [sn]; exact h1), sn]
    · have h1 : fitsErr (s.to Int) (d.to Wt)[j] = 0 := by simpa using h1
      have hz := of_decide_eq_true hz
      have hj0 : j = 0 := by omega
      refine nxt ?_
      rw [sn, if_neg (by simp [h1])]
      subst hj0
      rfl
    · have h1 : fitsErr (s.to Int) (d.to Wt)[j] = 0 := by simpa using h1
      rw [if_neg (by simp [h1])] at sn
      have hz := of_decide_eq_false hz
      obtain ⟨i, rfl⟩ : ∃ i, j = i + 1 := ⟨j - 1, by omega⟩
      have hci : i < (d.to Wt).length := by omega
      obtain ⟨b1, b2, b3⟩ := wt_cell hd hci
      have wi : IntKind.i64.wrap (((i + 1 : Nat) : Int) - 1) = (i : Int) := by rw [wrap64 (by omega) (by omega)]; omega
      have f0 : (WtD.mk (D.getInt d i 0) (D.getInt d i 1) (D.cell d i 2)).wt = (d.to Wt)[i] := b3.symm
      have fv : D.getInt d i 0 = ((d.to Wt)[i]).vol := by rw [← f0]; rfl
      have fs : D.getInt d i 1 = ((d.to Wt)[i]).start := by rw [← f0]; rfl
      have b2 : (D.cell d i 2).Is Sec := b2
      have fd : (D.cell d i 2).len = ((d.to Wt)[i]).data.length := by rw [D.Is.length (α := Sec), ← f0]; rfl
      have hdi := hdd _ (List.getElem_mem hci)
      have hfit : fitsErr (s.to Int) (d.to Wt)[i] = 0 := by
        have := canon_snoc (s.to Int) ((d.to Wt).take i) none (d.to Wt)[i]
        rw [← List.take_succ_eq_append_getElem hci, hpre] at this
        apply Classical.byContradiction
        intro hne
        by_cases hq : canonErr (s.to Int) none ((d.to Wt).take i) ≠ 0
        · rw [if_pos hq] at this; exact hq this.symm
        · rw [if_neg hq, if_pos hne] at this; exact hne this.symm
      have hst : 0 ≤ ((d.to Wt)[i]).start ∧ ((d.to Wt)[i]).start ≤ 4096 := by
        have hmax := (sizesErr_ok h0).2.2
        unfold fitsErr at hfit
        split at hfit
        · exact absurd hfit (by decide)
        · rename_i q1
          split at hfit
          · exact absurd hfit (by decide)
          · split at hfit
            · exact absurd hfit (by decide)
            · rename_i q2 q3
              have hv : ((d.to Wt)[i]).vol.toNat < (s.to Int).length := by omega
              have hm := hmax _ (List.getElem_mem hv)
              have hg : (s.to Int).getD ((d.to Wt)[i]).vol.toNat 0 = (s.to Int)[((d.to Wt)[i]).vol.toNat] := by rw [List.getD_eq_getElem?_getD, List.getElem?_eq_getElem hv]; rfl
              rw [hg] at q3
              omega
      rw [lastW_take hci] at sn
      rw [wi, Int.toNat_natCast i, ev, es, fv, fs, fd]
      have wsum : IntKind.i64.wrap (((d.to Wt)[i]).start + (((d.to Wt)[i]).data.length : Int)) = ((d.to Wt)[i]).start + (((d.to Wt)[i]).data.length : Int) := wrap64 (by omega) (by omega)
      rw [wsum]
      have wsum2 : IntKind.i64.wrap (((d.to Wt)[i]).start + (((d.to Wt)[i]).data.length : Int) + 1) = ((d.to Wt)[i]).start + (((d.to Wt)[i]).data.length : Int) + 1 := wrap64 (by omega) (by omega)
      rw [wsum2]
      have row : 0 ≤ ((i + 1 : Nat) : Int) ∧ ((i + 1 : Nat) : Int) < (d.len : Int) ∧ d.sz = 3 := ⟨by omega, by omega, hd.size hc⟩
      have hc0 : d.HasCell (Int.toNat ((i + 1 : Nat) : Int)) 0 (.int .i64) := c1.1
      have hc1 : d.HasCell (Int.toNat ((i + 1 : Nat) : Int)) 1 (.int .i64) := c1.2.1
      refine ⟨⟨by omega, by omega, hd.size hci⟩, b1, fun hs9 => ⟨fun k1 => ?_, fun k1 => ⟨fun k2 => ?_, fun k2 => ?_⟩⟩⟩
      · repeat' first
          | refine holds_need.2 ⟨row, ?_⟩
          | refine holds_need.2 ⟨hc0, ?_⟩
          | refine holds_need.2 ⟨k1, ?_⟩
        refine ret_int ?_
        rw [if_pos (by unfold cyBad; simp only; rw [k1]; rfl)] at sn
        rw [bad (by rw [sn]; decide), sn]
      · repeat' first
          | refine holds_need.2 ⟨row, ?_⟩
          | refine holds_need.2 ⟨hc0, ?_⟩
          | refine holds_need.2 ⟨hc1, ?_⟩
          | refine holds_need.2 ⟨k1, ?_⟩
          | refine holds_need.2 ⟨k2, ?_⟩
        refine ⟨fun k3 => ret_int ?_, fun k3 => ?_⟩
        · have k3 := of_decide_eq_true k3
          rw [if_pos (by unfold cyBad; simp only; rw [k2, decide_eq_true (show ((d.to Wt)[i + 1]).start ≤ ((d.to Wt)[i]).start + (((d.to Wt)[i]).data.length : Int) by omega)]; simp)] at sn
          rw [bad (by rw [sn]; decide), sn]
        · have k3 := of_decide_eq_false k3
          rw [if_neg (by unfold cyBad; simp only; rw [k1, k2, decide_eq_false (show ¬((d.to Wt)[i + 1]).start ≤ ((d.to Wt)[i]).start + (((d.to Wt)[i]).data.length : Int) by omega)]; simp)] at sn
          exact nxt sn
      · repeat' first
          | refine holds_need.2 ⟨row, ?_⟩
          | refine holds_need.2 ⟨hc0, ?_⟩
          | refine holds_need.2 ⟨k1, ?_⟩
          | refine holds_need.2 ⟨k2, ?_⟩
        rw [if_neg (by unfold cyBad; simp only; rw [k1, k2]; simp)] at sn
        exact nxt sn
  · have : j = (d.to Wt).length := by have := of_decide_eq_false hc; omega
    subst this
    rw [List.take_length] at hpre
    exact ret_int hpre.symm
theorem lawIxT : Law Tryz.prog 103 ((rdD.two (rdFn 92)).sp spIxT) := by
  refine law_in _ (by kernel_rfl) fun H w ⟨d, u⟩ hok hp => ?_
  obtain ⟨hd, hlen⟩ := hp _ (List.mem_singleton.2 rfl)
  simp only at hd hlen
  have hl := D.Is.length (α := Int) d
  apply exec_sound (noCtr _) 300
  rw [show (rdD.two (rdFn 92)).canon (d, u) = [.dat d, .fn 92 [] []] from rfl, ixt_in]
  refine runs_loop (fun j : Nat => cpoL d j) (fun j => j ≤ (d.to Int).length ∧ ((d.to Int).take j).findIdx? badTime = none) (fun j => (d.to Int).length - j) (fun _ => rfl) ?_ 0 ⟨Nat.zero_le _, by simp⟩
  intro j ⟨hj, hpre⟩ ih
  apply exec_sound (noCtr _) 300
  rw [ixt_go]
  refine ⟨fun hc => ?_, fun hc => ret_int ?_⟩
  · have hc : j < (d.to Int).length := by have := of_decide_eq_true hc; omega
    obtain ⟨c1, c2, c3⟩ := int_at hd hc
    rw [c3]
    refine ⟨c1, c2, fun h1 => ⟨fun h2 => ret_int ?_, fun h2 => ?_⟩, fun h1 => ret_int ?_⟩
    · have h2 : ¬(d.to Int)[j] ≤ 1073741824 := by simpa using h2
      exact (idxG_hit hc hpre (by unfold badTime; rw [decide_eq_true (show (d.to Int)[j] > 1073741824 by omega)]; simp)).symm
    · have h1 := of_decide_eq_true h1
      have h2 : (d.to Int)[j] ≤ 1073741824 := by simpa using h2
      have := ih (j + 1) ⟨hc, idxG_miss hc hpre (by unfold badTime; rw [decide_eq_false (show ¬(d.to Int)[j] < 0 by omega), decide_eq_false (show ¬(d.to Int)[j] > 1073741824 by omega)]; rfl)⟩ (by omega)
      rw [← wrap_succ hc (by omega)] at this
      exact this
    · have h1 := of_decide_eq_false h1
      exact (idxG_hit hc hpre (by unfold badTime; rw [decide_eq_true (show (d.to Int)[j] < 0 by omega)]; rfl)).symm
  · have : j = (d.to Int).length := by have := of_decide_eq_false hc; omega
    subst this
    exact (idxG_none hpre).symm
theorem lawPosL : Law Tryz.prog 59 ((rdD.two rdInt).sp spPosL) := by
  refine law_in _ (by kernel_rfl) fun H w ⟨d, n⟩ hok hp => ?_
  obtain ⟨hd, hlen⟩ := hp _ (List.mem_singleton.2 rfl)
  simp only at hd hlen
  have hl := D.Is.length (α := Int) d
  apply exec_sound (cs := [(103, ctrOf ((rdD.two (rdFn 92)).sp spIxT))]) (by intro x hx; rw [List.mem_singleton.1 hx]; exact ctrOf_ok lawIxT) 300
  rw [show (rdD.two rdInt).canon (d, n) = [.dat d, .int .i64 n] from rfl, cpo2_in]
  rw [idxG_any]
  refine ⟨fun h1 => ⟨fun h2 => ret_int ?_, fun h2 => ⟨⟨hd, hlen⟩, fun h3 => ret_int ?_, fun h3 => ret_int ?_⟩⟩, fun h1 => ret_int ?_⟩
  · have h2 : ¬(d.len : Int) ≤ 8 := by simpa using h2
    show _ = posL (d.to Int) n
    unfold posL; rw [if_pos (by omega)]
  · have h1 := of_decide_eq_true h1
    have h2 : (d.len : Int) ≤ 8 := by simpa using h2
    show _ = posL (d.to Int) n
    unfold posL; rw [if_neg (by omega), if_pos h3]
  · have h1 := of_decide_eq_true h1
    have h2 : (d.len : Int) ≤ 8 := by simpa using h2
    show _ = posL (d.to Int) n
    unfold posL; rw [if_neg (by omega), if_neg (by simp [h3])]
  · have h1 := of_decide_eq_false h1
    show _ = posL (d.to Int) n
    unfold posL; rw [if_pos (by omega)]
end Go.Proofs.YtllmgnhjljmihaaGreat
end
section
open Go Go.Proofs Sx
namespace Go.Proofs.YtllmgnhjljmihaaGreat
set_option maxRecDepth 100000
set_option maxHeartbeats 0
theorem ctCyOk : Ctrs.Ok Tryz.prog ctCy := by
  intro x hx
  rcases List.mem_cons.1 hx with rfl | hx
  · exact ctrOf_ok lawNewI
  rcases List.mem_cons.1 hx with rfl | hx
  · exact ctrOf_ok lawPosL
  · rw [List.mem_singleton.1 hx]; exact ctrOf_ok lawCo
theorem ctCyROk : Ctrs.Ok Tryz.prog ctCyR := by
  intro x hx
  rcases List.mem_cons.1 hx with rfl | hx
  · exact ctrOf_ok lawSizesR
  rcases List.mem_cons.1 hx with rfl | hx
  · exact ctrOf_ok lawPosR
  · rw [List.mem_singleton.1 hx]; exact ctrOf_ok lawCoR
theorem posL_zero (l : List Int) : posL l 0 = posErr l := by
  unfold posL posErr
  by_cases h : l.length > 8
  · rw [if_pos (.inr h), if_pos h]
  · rw [if_neg (by omega), if_neg h]
theorem lawCyCk : Law Tryz.prog 25 ((rdCy.two rdD).sp spCyCk) := by
  refine law_in _ (by kernel_rfl) fun H w ⟨⟨b, n, t, p, q⟩, s⟩ hok hp => ?_
  obtain ⟨⟨hpI, hqI, hpl, hql, hqd⟩, hs, hsl⟩ := hp _ (List.mem_singleton.2 rfl)
  simp only at hpI hqI hpl hql hqd hs hsl
  apply exec_sound ctCyOk 300
  rw [show (rdCy.two rdD).canon (⟨b, n, t, p, q⟩, s) = [.agg [.int .i64 b, .int .i64 n, .int .i64 t, .dat p, .dat q], .dat s] from rfl, cyc_in]
  have e0 : ∀ r : Int, cyErr (CyD.mk b n t p q).cy (s.to Int) = r → cyErr (CyD.mk b n t p q).cy (s.to Int) = r := fun _ h => h
  rw [posL_zero]
  refine ⟨⟨hs, hsl⟩, fun hs0 => ⟨fun c1 => ret_int ?_, fun c1 => ⟨fun c2 => ret_int ?_, fun c2 => ⟨fun c3 => ret_int ?_, fun c3 => ⟨fun c4 => ret_int ?_, fun c4 => ⟨fun c5 => ⟨fun c6 => ret_int ?_, fun c6 => ⟨⟨hpI, hpl⟩, fun c7 => ret_int ?_, fun c7 => ⟨⟨hqI, hql, hqd, hs, hsl⟩, ret_int ?_⟩⟩⟩, fun c5 => ret_int ?_⟩⟩⟩⟩⟩⟩
  all_goals show _ = cyErr ⟨b, n, t, p.to Int, q.to Wt⟩ (s.to Int)
  all_goals unfold cyErr
  · rw [if_pos (by simpa using c1)]
  · have c2 := of_decide_eq_true c2
    rw [if_neg (by simpa using c1), if_pos (by simp only; omega)]
  · have c3 := of_decide_eq_true c3
    rw [if_neg (by simpa using c1), if_pos (by simp only; omega)]
  · have c4 := of_decide_eq_true c4
    rw [if_neg (by simpa using c1), if_pos (by simp only; omega)]
  all_goals
    have c2 := of_decide_eq_false c2
    have c3 := of_decide_eq_false c3
    have c4 := of_decide_eq_false c4
    rw [if_neg (by simpa using c1), if_neg (by simp only; omega)]
  · have c6 : ¬t ≤ 1073741824 := by simpa using c6
    rw [if_pos (by unfold badTime; rw [decide_eq_true (show t > 1073741824 by omega)]; simp)]
  · have c5 := of_decide_eq_true c5
    have c6 : t ≤ 1073741824 := by simpa using c6
    rw [if_neg (by unfold badTime; rw [decide_eq_false (show ¬t < 0 by omega), decide_eq_false (show ¬t > 1073741824 by omega)]; decide), if_pos (by simpa using c7)]
  · have c5 := of_decide_eq_true c5
    have c6 : t ≤ 1073741824 := by simpa using c6
    rw [if_neg (by unfold badTime; rw [decide_eq_false (show ¬t < 0 by omega), decide_eq_false (show ¬t > 1073741824 by omega)]; decide), if_neg (by simpa using c7)]
  · have c5 := of_decide_eq_false c5
    rw [if_pos (by unfold badTime; rw [decide_eq_true (show t < 0 by omega)]; rfl)]
theorem lawCyCkR : Law Tryz.prog 32 ((rdCy.two rdD).sp spCyCk) := by
  refine law_in _ (by kernel_rfl) fun H w ⟨⟨b, n, t, p, q⟩, s⟩ hok hp => ?_
  obtain ⟨⟨hpI, hqI, hpl, hql, hqd⟩, hs, hsl⟩ := hp _ (List.mem_singleton.2 rfl)
  simp only at hpI hqI hpl hql hqd hs hsl
  have pl := D.Is.length (α := Int) p
  apply exec_sound ctCyROk 300
  rw [show (rdCy.two rdD).canon (⟨b, n, t, p, q⟩, s) = [.agg [.int .i64 b, .int .i64 n, .int .i64 t, .dat p, .dat q], .dat s] from rfl, rcy_in]
  refine ⟨⟨hs, hsl⟩, fun c1 => ret_int ?_, fun c1 => ⟨fun c2 => ret_int ?_, fun c2 => ⟨fun c3 => ret_int ?_, fun c3 => ⟨fun c4 => ret_int ?_, fun c4 => ⟨fun c5 => ret_int ?_, fun c5 => ⟨fun c6 => ret_int ?_, fun c6 => ⟨fun c8 => ret_int ?_, fun c8 => ⟨⟨hpI, hpl⟩, fun c7 => ret_int ?_, fun c7 => ⟨⟨hqI, hql, hqd, hs, hsl⟩, ret_int ?_⟩⟩⟩⟩⟩⟩⟩⟩⟩
  all_goals show _ = cyErr ⟨b, n, t, p.to Int, q.to Wt⟩ (s.to Int)
  all_goals unfold cyErr
  · rw [if_pos (by simpa using c1)]
  · have c2 := of_decide_eq_true c2
    rw [if_neg (by simpa using c1), if_pos (by simp only; omega)]
  · have c3 := of_decide_eq_true c3
    rw [if_neg (by simpa using c1), if_pos (by simp only; omega)]
  · have c4 := of_decide_eq_true c4
    rw [if_neg (by simpa using c1), if_pos (by simp only; omega)]
  all_goals
    have c2 := of_decide_eq_false c2
    have c3 := of_decide_eq_false c3
    have c4 := of_decide_eq_false c4
    rw [if_neg (by simpa using c1), if_neg (by simp only; omega)]
  · rw [if_pos (by unfold badTime; rw [c5]; rfl)]
  · rw [if_pos (by unfold badTime; rw [c6]; simp)]
  all_goals rw [if_neg (by unfold badTime; rw [c5, c6]; decide)]
  · have c8 := of_decide_eq_true c8
    have e : posErr (p.to Int) = 6 := by unfold posErr; rw [if_pos (by omega)]
    rw [if_pos (by simp only; rw [e]; decide)]
    simp only [e]
  · have c8 := of_decide_eq_false c8
    have e : posErr (p.to Int) = posT (p.to Int) := by unfold posErr posT; rw [if_neg (by omega)]
    rw [if_pos (by simp only; rw [e]; simpa using c7)]
    simp only [e]
  · have c8 := of_decide_eq_false c8
    have e : posErr (p.to Int) = posT (p.to Int) := by unfold posErr posT; rw [if_neg (by omega)]
    rw [if_neg (by simp only; rw [e]; simpa using c7)]
end Go.Proofs.YtllmgnhjljmihaaGreat
end
section
open Go Go.Proofs Sx
namespace Go.Proofs.YtllmgnhjljmihaaGreat
set_option maxRecDepth 100000
set_option maxHeartbeats 0
noncomputable def ctK : Ctrs := [(62, oCtr (spClone Int 3)), (65, oCtr (spClone Sec 95))]
section
variable (d p q : D) (b n t : Int)
theorem cl1_in : execT Tryz.prog [] (fun _ => false) 19 (entry Tryz.prog 62 [.dat d]) =
 Tree.br
 (nilOf
 (evS
 (putS [.dat d, SV.undef, .nils, SV.undef, SV.undef, SV.undef, SV.undef, SV.undef] (some 3)
 (evS [.dat d, SV.undef, .nils, SV.undef, SV.undef, SV.undef, SV.undef, SV.undef] (Operand.tmp 0)))
 (Operand.tmp 3))
 d)
 (.ret .nils)
 (.all fun hs =>
 .need
 (D.sz (D.slc (D.hd (hs 0 0)) 1 []) = 1 ∧
 D.Fits d 1 ∧
 (D.len (D.slc (D.hd (hs 0 0)) 1 []) + D.len d) * 8 ≤ 140737488355328 ∧
 D.len (D.slc (D.hd (hs 0 0)) 1 []) + D.len d ≤ 9223372036854775807)
 (.all fun hs_1 =>
 .leaf
 (Conf.mk
 (SFrm.mk 62 none none [Item.code (cAt Tryz.prog 62 [1, 0, 1, 0, 1])]
 (mkU
 [(0, .dat d), (2, .vec 1007), (3, .dat d),
 (4,
 .bool
 (nilOf
 (evS
 (putS [.dat d, SV.undef, .nils, SV.undef, SV.undef, SV.undef, SV.undef, SV.undef] (some 3)
 (evS [.dat d, SV.undef, .nils, SV.undef, SV.undef, SV.undef, SV.undef, SV.undef]
 (Operand.tmp 0)))
 (Operand.tmp 3))
 d)),
 (5, .vec 1005), (6, .dat d), (7, .vec 1007)]
 0 8))
 []
 [(1007,
 OBlk.arr 3
 (D.slc (D.hd (hs_1 0 0)) 1 (List.append (D.rows (D.slc (D.hd (hs 0 0)) 1 [])) (D.rows d))))]))) := by kernel_rfl

theorem cl2_in : execT Tryz.prog [] (fun _ => false) 19 (entry Tryz.prog 65 [.dat d]) =
 Tree.br
 (nilOf
 (evS
 (putS [.dat d, SV.undef, .nils, SV.undef, SV.undef, SV.undef, SV.undef, SV.undef] (some 3)
 (evS [.dat d, SV.undef, .nils, SV.undef, SV.undef, SV.undef, SV.undef, SV.undef] (Operand.tmp 0)))
 (Operand.tmp 3))
 d)
 (.ret .nils)
 (.all fun hs =>
 .need
 (D.sz (D.slc (D.hd (hs 0 0)) 8 []) = 8 ∧
 D.Fits d 8 ∧
 (D.len (D.slc (D.hd (hs 0 0)) 8 []) + D.len d) * 8 ≤ 140737488355328 ∧
 D.len (D.slc (D.hd (hs 0 0)) 8 []) + D.len d ≤ 9223372036854775807)
 (.all fun hs_1 =>
 .leaf
 (Conf.mk
 (SFrm.mk 65 none none [Item.code (cAt Tryz.prog 65 [1, 0, 1, 0, 1])]
 (mkU
 [(0, .dat d), (2, .vec 1007), (3, .dat d),
 (4,
 .bool
 (nilOf
 (evS
 (putS [.dat d, SV.undef, .nils, SV.undef, SV.undef, SV.undef, SV.undef, SV.undef] (some 3)
 (evS [.dat d, SV.undef, .nils, SV.undef, SV.undef, SV.undef, SV.undef, SV.undef]
 (Operand.tmp 0)))
 (Operand.tmp 3))
 d)),
 (5, .vec 1005), (6, .dat d), (7, .vec 1007)]
 0 8))
 []
 [(1007,
 OBlk.arr 95
 (D.slc (D.hd (hs_1 0 0)) 8 (List.append (D.rows (D.slc (D.hd (hs 0 0)) 8 [])) (D.rows d))))]))) := by kernel_rfl

theorem ccp_in : exec Tryz.prog ctK 400 (entry Tryz.prog 30 [.agg [.int .i64 b, .int .i64 n, .int .i64 t, .dat p, .dat q]]) =
 Tree.need (D.Is Int p ∧ D.len p ≤ 1048576)
 (.all fun hs =>
 .leaf
 (Conf.mk
 (SFrm.mk 30 none none
 [Item.inLoop (cAt Tryz.prog 30 [1, 1, 1, 0, 1, 0, 0]), Item.inBlock 0,
 Item.code (cAt Tryz.prog 30 [1, 1, 1, 1])]
 (mkJ 0
 [(1, .ptr 0 0), (2, .ptr 1 0), (3, .nils), (11, .dat q),
 (12, .int .i64 (↑(D.len q) : Int)), (13, .int .i64 0)]
 0 29))
 []
 [(0, OBlk.cells 32 [.int .i64 b, .int .i64 n, .int .i64 t, .vec 2, .dat q]),
 (1, OBlk.cells 32 [.int .i64 0, .int .i64 0, .int .i64 0, .nils, .nils]),
 (2, OBlk.arr 3 (D.slc (D.hd (hs 0 0)) 1 (D.rows p)))])) := by kernel_rfl

theorem cpw_in : exec Tryz.prog [] 400 (entry Tryz.prog 74 [.dat d]) =
 Tree.leaf
 (Conf.mk
 (SFrm.mk 74 none none
 [Item.inLoop (cAt Tryz.prog 74 [1, 1, 0, 1, 0, 0]), Item.inBlock 0, Item.code (cAt Tryz.prog 74 [1, 1, 1])]
 (mkJ 0 [(0, .dat d), (3, .nils), (4, .int .i64 0)] 0 34))
 [] []) := by kernel_rfl

end
end Go.Proofs.YtllmgnhjljmihaaGreat
end
section
open Go Go.Proofs Sx
namespace Go.Proofs.YtllmgnhjljmihaaGreat
set_option maxRecDepth 100000
set_option maxHeartbeats 0
noncomputable def ccpL (q p r : D) (b n t j : Int) : Conf := Conf.mk (SFrm.mk 30 none none [Item.inLoop (cAt Tryz.prog 30 [1, 1, 1, 0, 1, 0, 0]), Item.inBlock 0, Item.code (cAt Tryz.prog 30 [1, 1, 1, 1])]
 (mkJ 0 [(1, .ptr 0 0), (2, .ptr 1 0), (3, .vec 2), (11, .dat q), (12, .int .i64 (q.len : Int)), (13, .int .i64 j)] 0 29)) [] [(0, .cells 32 [.int .i64 b, .int .i64 n, .int .i64 t, .vec 3, .dat q]), (1, .cells 32 [.int .i64 0, .int .i64 0, .int .i64 0, .nils, .nils]), (2, .arr 89 r), (3, .arr 3 p)]
noncomputable def cpwL (d r : D) (j : Int) : Conf := Conf.mk (SFrm.mk 74 none none [Item.inLoop (cAt Tryz.prog 74 [1, 1, 0, 1, 0, 0]), Item.inBlock 0, Item.code (cAt Tryz.prog 74 [1, 1, 1])]
 (mkJ 0 [(0, .dat d), (3, .vec 0), (4, .int .i64 j)] 0 34)) [] [(0, .arr 89 r)]
noncomputable def ctCpW : Ctrs := [(74, ctrOf (rdD.one.sp spCpW))]
section
variable (d p q r : D) (b n t j : Int)
theorem ccpL_go : exec Tryz.prog ctK 400 (unroll (ccpL q p r b n t j)) =
 Tree.br (decide (j < (↑(D.len q) : Int)))
 (.need (0 ≤ j ∧ j < (↑(D.len q) : Int) ∧ D.sz q = 3)
 (.need (D.HasCells q (Int.toNat j) 0 [FT.int .i64, FT.int .i64, FT.slc])
 (.need (D.Is Sec (D.cell q (Int.toNat j) 2) ∧ D.len (D.cell q (Int.toNat j) 2) ≤ 1048576)
 (.all fun hs =>
 .all fun hs_1 =>
 .need
 (D.sz r = 3 ∧
 D.Fits
 (D.slc (D.hd (hs_1 0 0)) 3
 [[D.int .i64 (D.getInt q (Int.toNat j) 0), D.int .i64 (D.getInt q (Int.toNat j) 1),
 D.slc (D.hd (hs 0 0)) 8 (D.rows (D.cell q (Int.toNat j) 2))]])
 3 ∧
 (D.len r +
 D.len
 (D.slc (D.hd (hs_1 0 0)) 3
 [[D.int .i64 (D.getInt q (Int.toNat j) 0),
 D.int .i64 (D.getInt q (Int.toNat j) 1),
 D.slc (D.hd (hs 0 0)) 8 (D.rows (D.cell q (Int.toNat j) 2))]])) *
 40 ≤
 140737488355328 ∧
 D.len r +
 D.len
 (D.slc (D.hd (hs_1 0 0)) 3
 [[D.int .i64 (D.getInt q (Int.toNat j) 0),
 D.int .i64 (D.getInt q (Int.toNat j) 1),
 D.slc (D.hd (hs 0 0)) 8 (D.rows (D.cell q (Int.toNat j) 2))]]) ≤
 9223372036854775807)
 (.all fun hs_2 =>
 .leaf
 (Conf.mk
 (SFrm.mk 30 none none
 [Item.inLoop (cAt Tryz.prog 30 [1, 1, 1, 0, 1, 0, 0]), Item.inBlock 0,
 Item.code (cAt Tryz.prog 30 [1, 1, 1, 1])]
 (mkJ 0
 [(1, .ptr 0 0), (2, .ptr 1 0), (3, .vec 2), (11, .dat q),
 (12, .int .i64 (↑(D.len q) : Int)),
 (13, .int .i64 (IntKind.wrap .i64 (j + 1)))]
 0 29))
 []
 [(0,
 OBlk.cells 32
 [.int .i64 b, .int .i64 n, .int .i64 t, .vec 3, .dat q]),
 (1,
 OBlk.cells 32
 [.int .i64 0, .int .i64 0, .int .i64 0, .nils, .nils]),
 (2,
 OBlk.arr 89
 (D.slc (D.hd (hs_2 0 0)) 3
 (List.append (D.rows r)
 (D.rows
 (D.slc (D.hd (hs_1 0 0)) 3
 [[D.int .i64 (D.getInt q (Int.toNat j) 0),
 D.int .i64 (D.getInt q (Int.toNat j) 1),
 D.slc (D.hd (hs 0 0)) 8 (D.rows (D.cell q (Int.toNat j) 2))]]))))),
 (3, OBlk.arr 3 p)]))))))
 (.ret (.agg [.int .i64 b, .int .i64 n, .int .i64 t, .dat p, .dat r])) := by kernel_rfl

theorem cpwL_go : exec Tryz.prog [] 400 (unroll (cpwL d r j)) =
 Tree.br (decide (j < (↑(D.len d) : Int)))
 (.all fun hs =>
 .need (0 ≤ j ∧ j < (↑(D.len d) : Int) ∧ D.sz d = 3)
 (.need (D.HasCell d (Int.toNat j) 0 (FT.int .i64))
 (.need (0 ≤ j ∧ j < (↑(D.len d) : Int) ∧ D.sz d = 3)
 (.need (D.HasCell d (Int.toNat j) 1 (FT.int .i64))
 (.need (0 ≤ j ∧ j < (↑(D.len d) : Int) ∧ D.sz d = 3)
 (.need (D.HasCell d (Int.toNat j) 2 FT.slc)
 (.need
 (D.Fits (D.cell d (Int.toNat j) 2) 8 ∧
 D.len (D.cell d (Int.toNat j) 2) * 8 ≤ 140737488355328 ∧
 D.len (D.cell d (Int.toNat j) 2) ≤ 9223372036854775807)
 (.need
 (D.sz r = 3 ∧
 D.Fits
 (D.slc (D.hd (hs 19 0)) 3
 [[D.int .i64 (D.getInt d (Int.toNat j) 0),
 D.int .i64 (D.getInt d (Int.toNat j) 1),
 D.slc (D.hd (hs 17 0)) 8 (D.rows (D.cell d (Int.toNat j) 2))]])
 3 ∧
 (D.len r +
 D.len
 (D.slc (D.hd (hs 19 0)) 3
 [[D.int .i64 (D.getInt d (Int.toNat j) 0),
 D.int .i64 (D.getInt d (Int.toNat j) 1),
 D.slc (D.hd (hs 17 0)) 8 (D.rows (D.cell d (Int.toNat j) 2))]])) *
 40 ≤
 140737488355328 ∧
 D.len r +
 D.len
 (D.slc (D.hd (hs 19 0)) 3
 [[D.int .i64 (D.getInt d (Int.toNat j) 0),
 D.int .i64 (D.getInt d (Int.toNat j) 1),
 D.slc (D.hd (hs 17 0)) 8 (D.rows (D.cell d (Int.toNat j) 2))]]) ≤
 9223372036854775807)
 (.leaf
 (Conf.mk
 (SFrm.mk 74 none none
 [Item.inLoop (cAt Tryz.prog 74 [1, 1, 0, 1, 0, 0]), Item.inBlock 0,
 Item.code (cAt Tryz.prog 74 [1, 1, 1])]
 (mkJ 0
 [(0, .dat d), (3, .vec 0), (4, .int .i64 (IntKind.wrap .i64 (j + 1)))] 0
 34))
 []
 [(0,
 OBlk.arr 89
 (D.slc (D.hd (hs 20 0)) 3
 (List.append (D.rows r)
 (D.rows
 (D.slc (D.hd (hs 19 0)) 3
 [[D.int .i64 (D.getInt d (Int.toNat j) 0),
 D.int .i64 (D.getInt d (Int.toNat j) 1),
 D.slc (D.hd (hs 17 0)) 8 (D.rows (D.cell d (Int.toNat j) 2))]])))))]))))))))))
 (.ret (.dat r)) := by kernel_rfl

theorem rcc_in : exec Tryz.prog ctCpW 400 (entry Tryz.prog 37 [.agg [.int .i64 b, .int .i64 n, .int .i64 t, .dat p, .dat q]]) =
 Tree.need (D.Fits p 1 ∧ D.len p * 8 ≤ 140737488355328 ∧ D.len p ≤ 9223372036854775807)
 (.all fun hs =>
 .need (D.Is Wt q ∧ D.len q ≤ 1048576 ∧ ∀ (w : Wt), List.Mem w (D.to Wt q) → List.length (Wt.data w) ≤ 1048576)
 (.all fun hs_1 =>
 .ret
 (.agg
 [.int .i64 b, .int .i64 n, .int .i64 t,
 .dat (D.slc (D.hd (hs 0 0)) 1 (D.rows p)), .dat (D.like (hs_1 0 0) (D.to Wt q))]))) := by kernel_rfl

end
end Go.Proofs.YtllmgnhjljmihaaGreat
end
section
open Go Go.Proofs Sx
namespace Go.Proofs.YtllmgnhjljmihaaGreat
set_option maxRecDepth 100000

theorem lawCl1 : OLaw Tryz.prog 62 (spClone Int 3) := by
  refine olaw_clone (by kernel_rfl) fun H w d hok hd hlen => ?_
  apply execT_sound (noCtr _) (fun _ => false) 19
  rw [cl1_in]
  refine ⟨fun hc => ?_, fun hc hs => ⟨⟨rfl, hd.fits, by simp only [len_slc, List.length_nil]; omega, by simp only [len_slc, List.length_nil]; omega⟩, fun hs1 => ?_⟩⟩
  · have hc : d.isNil = true := hc
    have := nil_rows hok hc
    exact own_nil (h := .slc none 1 []) (by rw [this]; rfl)
  · exact own_ret (f := Tryz.f62) (j := 1007) (h := hs1 0 0) (by kernel_rfl) (by kernel_rfl) rfl rfl
theorem lawCl2 : OLaw Tryz.prog 65 (spClone Sec 95) := by
  refine olaw_clone (by kernel_rfl) fun H w d hok hd hlen => ?_
  apply execT_sound (noCtr _) (fun _ => false) 19
  rw [cl2_in]
  refine ⟨fun hc => ?_, fun hc hs => ⟨⟨rfl, hd.fits, by simp only [len_slc, List.length_nil]; omega, by simp only [len_slc, List.length_nil]; omega⟩, fun hs1 => ?_⟩⟩
  · have hc : d.isNil = true := hc
    have := nil_rows hok hc
    exact own_nil (h := .slc none 8 []) (by rw [this]; rfl)
  · exact own_ret (f := Tryz.f65) (j := 1007) (h := hs1 0 0) (by kernel_rfl) (by kernel_rfl) rfl rfl
theorem ctKOk : Ctrs.Ok Tryz.prog ctK := by
  intro x hx
  simp only [ctK, List.mem_cons, List.not_mem_nil, or_false] at hx
  rcases hx with rfl | rfl
  · exact oCtr_ok lawCl1
  · exact oCtr_ok lawCl2

theorem lawCpC : Law Tryz.prog 30 (rdCy.one.sp spCpC) := by
  refine law_in _ (by kernel_rfl) fun H w ⟨b, n, t, p, hb⟩ hok hp => ?_
  obtain ⟨ra, rb, la, lb, rd⟩ := hp _ (List.mem_singleton.2 rfl)
  simp only at ra rb la lb rd
  have bl := D.Is.length (α := Wt) hb
  apply exec_sound ctKOk 400
  rw [show rdCy.one.canon ⟨b, n, t, p, hb⟩ = [.agg [.int .i64 b, .int .i64 n, .int .i64 t, .dat p, .dat hb]] from rfl, ccp_in]
  refine ⟨⟨ra, la⟩, fun hs => ?_⟩
  obtain ⟨p1, p2⟩ := slc_same ra (D.hd (hs 0 0)) (s := 1) rfl
  refine vecIn_to 9 89 3 none 3 (ccpL hb (D.slc (D.hd (hs 0 0)) 1 (D.rows p)) (.slc none 3 []) b n t 0) (by kernel_rfl) ?_
  generalize D.slc (D.hd (hs 0 0)) 1 (D.rows p) = p' at p1 p2
  refine runs_loop (fun q : D × Nat => ccpL hb p' q.1 b n t q.2) (fun q => q.2 ≤ (hb.to Wt).length ∧ q.1.Is Wt ∧ q.1.sz = 3 ∧ q.1.to Wt = (hb.to Wt).take q.2) (fun q => (hb.to Wt).length - q.2) (fun _ => rfl) ?_ (.slc none 3 [], 0) ⟨Nat.zero_le _, is_nil _ _, rfl, rfl⟩
  intro ⟨q, j⟩ ⟨hj, hq, hz, hto⟩ ih
  simp only at hj hq hz hto
  have ql := D.Is.length (α := Wt) q
  rw [hto, List.length_take] at ql
  show Runs Tryz.prog ⟨w, H⟩ (unroll (ccpL hb p' q b n t j)) _
  apply exec_sound ctKOk 400
  rw [ccpL_go]
  refine ⟨fun hcj => ?_, fun hcj => ?_⟩
  · have hcj : j < (hb.to Wt).length := by have := of_decide_eq_true hcj; omega
    obtain ⟨c1, c2, c3⟩ := wt_cell rb hcj
    have hwd := rd _ (List.getElem_mem hcj)
    rw [c3] at hwd
    refine ⟨⟨by omega, by omega, rb.size hcj⟩, c1, ⟨c2, by rw [D.Is.length (α := Sec)]; exact hwd⟩, fun hs1 hs2 => ⟨⟨hz, .inr rfl, by simp only [len_slc, List.length_cons, List.length_nil]; omega, by simp only [len_slc, List.length_cons, List.length_nil]; omega⟩, fun hs3 => ?_⟩⟩
    obtain ⟨x1, x2⟩ := slc_same c2 (D.hd (hs1 0 0)) (s := 8) rfl
    have hr := rows_app (rows_of hq) (wt_one (hb.getInt j 0) (hb.getInt j 1) x1)
    obtain ⟨i1, i2⟩ := is_of (h := D.hd (hs3 0 0)) (s := 3) rfl hr
    have := ih (_, j + 1) ⟨hcj, i1, rfl, i2.trans (by rw [hto, List.take_succ_eq_append_getElem hcj, c3, x2])⟩ (by simp only; omega)
    simp only at this
    rw [← wrap_succ hcj (by omega)] at this
    exact this
  · have : j = (hb.to Wt).length := by have := of_decide_eq_false hcj; omega
    subst this
    rw [List.take_length] at hto
    exact ret_cy (stands_dat p1 p2) (stands_dat hq hto) rfl

theorem lawCpW : Law Tryz.prog 74 (rdD.one.sp spCpW) := by
  refine law_in _ (by kernel_rfl) fun H w hb hok hp => ?_
  obtain ⟨rb, lb, rd⟩ := hp _ (List.mem_singleton.2 rfl)
  have bl := D.Is.length (α := Wt) hb
  apply exec_sound (noCtr _) 400
  rw [show rdD.one.canon hb = [.dat hb] from rfl, cpw_in]
  refine vecIn_to 9 89 3 none 3 (cpwL hb (.slc none 3 []) 0) (by kernel_rfl) ?_
  refine runs_loop (fun q : D × Nat => cpwL hb q.1 q.2) (fun q => q.2 ≤ (hb.to Wt).length ∧ q.1.Is Wt ∧ q.1.sz = 3 ∧ q.1.to Wt = (hb.to Wt).take q.2) (fun q => (hb.to Wt).length - q.2) (fun _ => rfl) ?_ (.slc none 3 [], 0) ⟨Nat.zero_le _, is_nil _ _, rfl, rfl⟩
  intro ⟨q, j⟩ ⟨hj, hq, hz, hto⟩ ih
  simp only at hj hq hz hto
  have ql := D.Is.length (α := Wt) q
  rw [hto, List.length_take] at ql
  show Runs Tryz.prog ⟨w, H⟩ (unroll (cpwL hb q j)) _
  apply exec_sound (noCtr _) 400
  rw [cpwL_go]
  refine ⟨fun hcj => ?_, fun hcj => ?_⟩
  · have hcj : j < (hb.to Wt).length := by have := of_decide_eq_true hcj; omega
    obtain ⟨⟨c1, c1', c1'', _⟩, c2, c3⟩ := wt_cell rb hcj
    have hwd := rd _ (List.getElem_mem hcj)
    rw [c3] at hwd
    have hls : (hb.cell (Int.toNat (j : Int)) 2).len ≤ 1048576 := by rw [D.Is.length (α := Sec)]; exact hwd
    have c0 : 0 ≤ (j : Int) ∧ (j : Int) < (hb.len : Int) ∧ hb.sz = 3 := ⟨by omega, by omega, rb.size hcj⟩
    refine fun hs => ⟨c0, c1, c0, c1', c0, c1'', ⟨c2.fits, by omega, by omega⟩, ⟨hz, .inr rfl, by simp only [len_slc, List.length_cons, List.length_nil]; omega, by simp only [len_slc, List.length_cons, List.length_nil]; omega⟩, ?_⟩
    obtain ⟨x1, x2⟩ := slc_same c2 (D.hd (hs 17 0)) (s := 8) rfl
    have hr := rows_app (rows_of hq) (wt_one (hb.getInt j 0) (hb.getInt j 1) x1)
    obtain ⟨i1, i2⟩ := is_of (h := D.hd (hs 20 0)) (s := 3) rfl hr
    have := ih (_, j + 1) ⟨hcj, i1, rfl, i2.trans (by rw [hto, List.take_succ_eq_append_getElem hcj, c3, x2])⟩ (by simp only; omega)
    simp only at this
    rw [← wrap_succ hcj (by omega)] at this
    exact this
  · have : j = (hb.to Wt).length := by have := of_decide_eq_false hcj; omega
    subst this
    rw [List.take_length] at hto
    obtain ⟨d, h⟩ := (stands_dat hq hto).se
    exact ret_se (fun _ => d) h
theorem ctCpWOk : Ctrs.Ok Tryz.prog ctCpW := by
  intro x hx
  rw [List.mem_singleton.1 hx]; exact ctrOf_ok lawCpW
theorem lawCpR : Law Tryz.prog 37 (rdCy.one.sp spCpC) := by
  refine law_in _ (by kernel_rfl) fun H w ⟨b, n, t, p, hb⟩ hok hp => ?_
  obtain ⟨ra, rb, la, lb, rd⟩ := hp _ (List.mem_singleton.2 rfl)
  simp only at ra rb la lb rd
  apply exec_sound ctCpWOk 400
  rw [show rdCy.one.canon ⟨b, n, t, p, hb⟩ = [.agg [.int .i64 b, .int .i64 n, .int .i64 t, .dat p, .dat hb]] from rfl, rcc_in]
  refine ⟨⟨ra.fits, by omega, by omega⟩, fun hs => ⟨⟨rb, lb, rd⟩, fun hs1 => ?_⟩⟩
  obtain ⟨p1, p2⟩ := slc_same ra (D.hd (hs 0 0)) (s := 1) rfl
  exact ret_cy (stands_dat p1 p2) stands_like rfl
end Go.Proofs.YtllmgnhjljmihaaGreat
end
section
open Go Go.Proofs Sx
namespace Go.Proofs.YtllmgnhjljmihaaGreat
set_option maxRecDepth 100000
set_option maxHeartbeats 0
noncomputable def i23L (a b : D) (j : Int) : Conf := Conf.mk (SFrm.mk 48 none none [Item.inLoop (cAt Tryz.prog 48 [1, 1, 0, 1, 0, 0]), Item.inBlock 0, Item.code (cAt Tryz.prog 48 [1, 1, 1])]
 (mkJ 0 [(0, .dat a), (1, .dat b), (5, .int .i64 j)] 0 26)) [] []
noncomputable def ctSmC : Ctrs := [(48, ctrOf ((rdD.two rdD).sp spInts)), (49, ctrOf ((rdD.two rdD).sp spWts))]
noncomputable def ctFwC : Ctrs := [(17, ctrOf (rdD.one.sp spFewW))]
section
variable (a b p q p' q' : D) (j x n t x' n' t' e s ap st : Int)
theorem i23_in : exec Tryz.prog [] 300 (entry Tryz.prog 48 [.dat a, .dat b]) =
 Tree.br ((↑(D.len a) : Int) != (↑(D.len b) : Int)) (.ret (.lb false))
 (.leaf
 (Conf.mk
 (SFrm.mk 48 none none
 [Item.inLoop (cAt Tryz.prog 48 [1, 1, 0, 1, 0, 0]), Item.inBlock 0, Item.code (cAt Tryz.prog 48 [1, 1, 1])]
 (mkJ 0 [(0, .dat a), (1, .dat b), (5, .int .i64 0)] 0 26))
 [] [])) := by kernel_rfl

theorem i23_go : exec Tryz.prog [] 200 (unroll (i23L a b j)) =
 Tree.br (decide (j < (↑(D.len a) : Int)))
 (.all fun hs =>
 .need (0 ≤ j ∧ j < (↑(D.len a) : Int) ∧ D.sz a = 1)
 (.need (D.HasCell a (Int.toNat j) 0 (FT.int .i64))
 (.need (0 ≤ j ∧ j < (↑(D.len b) : Int) ∧ D.sz b = 1)
 (.need (D.HasCell b (Int.toNat j) 0 (FT.int .i64))
 (.br (D.getInt a (Int.toNat j) 0 != D.getInt b (Int.toNat j) 0) (.ret (.lb false))
 (.leaf
 (Conf.mk
 (SFrm.mk 48 none none
 [Item.inLoop (cAt Tryz.prog 48 [1, 1, 0, 1, 0, 0]), Item.inBlock 0,
 Item.code (cAt Tryz.prog 48 [1, 1, 1])]
 (mkJ 0 [(0, .dat a), (1, .dat b), (5, .int .i64 (IntKind.wrap .i64 (j + 1)))] 0
 26))
 [] [])))))))
 (.ret (.lb true)) := by kernel_rfl

theorem few23_in : exec Tryz.prog ctFwC 200 (entry Tryz.prog 6 [.agg [.int .i64 x, .int .i64 n, .int .i64 t, .dat p, .dat q]]) =
 Tree.br (decide ((↑(D.len p) : Int) ≤ 40)) (.need (D.Is Wt q) (.ret (.bool (fewW (D.to Wt q)))))
 (.ret (.lb false)) := by kernel_rfl

theorem same23_in : exec Tryz.prog ctSmC 300 (entry Tryz.prog 16 [.agg [.int .i64 x, .int .i64 n, .int .i64 t, .dat p, .dat q], .agg [.int .i64 x', .int .i64 n', .int .i64 t', .dat p', .dat q']]) =
 Tree.br (decide (x = x'))
 (.br (decide (n = n'))
 (.br (decide (t = t'))
 (.need (D.Is Int p ∧ D.Is Int p' ∧ D.len p ≤ 1048576)
 (.br (decide (D.to Int p = D.to Int p'))
 (.need
 (D.Is Wt q ∧
 D.Is Wt q' ∧ D.len q ≤ 1048576 ∧ ∀ (w : Wt), List.Mem w (D.to Wt q) → List.length (Wt.data w) ≤ 1048576)
 (.ret (.bool (decide (D.to Wt q = D.to Wt q')))))
 (.ret (.lb false))))
 (.ret (.lb false)))
 (.ret (.lb false)))
 (.ret (.lb false)) := by kernel_rfl

theorem nt1_in : exec Tryz.prog [] 300 (entry Tryz.prog 50 [.int .i64 e, .int .i64 s, .int .i64 ap]) =
 Tree.br (decide (e ≥ 0))
 (.br (decide (e ≤ 1073741824))
 (.br (decide (s ≥ 0))
 (.br (decide (s < 4))
 (.br (decide (ap ≥ 0))
 (.br (!decide (ap ≤ 1073741824))
 (.ret
 (SV.tup
 [.agg [.int .i64 0, .int .i64 0, .int .i64 0, .int .i64 0],
 .int .i64 2]))
 (.ret
 (SV.tup
 [.agg [.int .i64 e, .int .i64 s, .int .i64 ap, .int .i64 ap],
 .int .i64 0])))
 (.ret
 (SV.tup
 [.agg [.int .i64 0, .int .i64 0, .int .i64 0, .int .i64 0],
 .int .i64 2])))
 (.ret
 (SV.tup
 [.agg [.int .i64 0, .int .i64 0, .int .i64 0, .int .i64 0],
 .int .i64 2])))
 (.ret
 (SV.tup
 [.agg [.int .i64 0, .int .i64 0, .int .i64 0, .int .i64 0],
 .int .i64 2])))
 (.ret
 (SV.tup
 [.agg [.int .i64 0, .int .i64 0, .int .i64 0, .int .i64 0],
 .int .i64 2])))
 (.ret
 (SV.tup
 [.agg [.int .i64 0, .int .i64 0, .int .i64 0, .int .i64 0],
 .int .i64 2])) := by kernel_rfl

theorem ns1_in : exec Tryz.prog [] 300 (entry Tryz.prog 51 [.int .i64 e, .int .i64 s, .int .i64 ap]) =
 Tree.br (decide (e ≥ 0))
 (.br (decide (e ≤ 1073741824))
 (.br (decide (s ≥ 0))
 (.br (decide (s < 4))
 (.br (decide (ap ≥ 0))
 (.br (!decide (ap ≤ 1073741824))
 (.ret
 (SV.tup
 [.agg
 [.int .i64 0, .int .i64 0, .nils, .int .i64 0, .int .i64 0],
 .int .i64 2]))
 (.ret
 (SV.tup
 [.agg
 [.int .i64 e, .int .i64 s, .nils, .int .i64 ap, .int .i64 ap],
 .int .i64 0])))
 (.ret
 (SV.tup
 [.agg [.int .i64 0, .int .i64 0, .nils, .int .i64 0, .int .i64 0],
 .int .i64 2])))
 (.ret
 (SV.tup
 [.agg [.int .i64 0, .int .i64 0, .nils, .int .i64 0, .int .i64 0],
 .int .i64 2])))
 (.ret
 (SV.tup
 [.agg [.int .i64 0, .int .i64 0, .nils, .int .i64 0, .int .i64 0],
 .int .i64 2])))
 (.ret
 (SV.tup
 [.agg [.int .i64 0, .int .i64 0, .nils, .int .i64 0, .int .i64 0],
 .int .i64 2])))
 (.ret
 (SV.tup
 [.agg [.int .i64 0, .int .i64 0, .nils, .int .i64 0, .int .i64 0],
 .int .i64 2])) := by kernel_rfl

theorem ct1_in : exec Tryz.prog [] 300 (entry Tryz.prog 54 [.agg [.int .i64 e, .int .i64 s, .int .i64 st, .int .i64 ap]]) =
 Tree.br (decide (e ≥ 0))
 (.br (!decide (e ≤ 1073741824))
 (.br (!decide (e ≤ 1073741824)) (.ret (.int .i64 2))
 (.br (decide (ap < 0))
 (.br (decide (ap < 0)) (.ret (.int .i64 3)) (.ret (.int .i64 0)))
 (.br (decide (st < ap))
 (.br (decide (st < ap)) (.ret (.int .i64 3)) (.ret (.int .i64 0)))
 (.br (decide (st > 1073741824)) (.ret (.int .i64 3)) (.ret (.int .i64 0))))))
 (.br (decide (s ≥ 0))
 (.br (!decide (s < 4)) (.ret (.int .i64 2))
 (.br (decide (ap < 0))
 (.br (decide (ap < 0)) (.ret (.int .i64 3)) (.ret (.int .i64 0)))
 (.br (decide (st < ap))
 (.br (decide (st < ap)) (.ret (.int .i64 3)) (.ret (.int .i64 0)))
 (.br (decide (st > 1073741824)) (.ret (.int .i64 3)) (.ret (.int .i64 0))))))
 (.ret (.int .i64 2))))
 (.ret (.int .i64 2)) := by kernel_rfl

theorem ct2_in : exec Tryz.prog [] 300 (entry Tryz.prog 66 [.agg [.int .i64 e, .int .i64 s, .int .i64 st, .int .i64 ap]]) =
 Tree.br (decide (e ≥ 0))
 (.br (!decide (e ≤ 1073741824)) (.ret (.int .i64 2))
 (.br (decide (s ≥ 0))
 (.br (!decide (s < 4)) (.ret (.int .i64 2))
 (.br (decide (ap < 0)) (.ret (.int .i64 3))
 (.br (decide (st < ap)) (.ret (.int .i64 3))
 (.br (decide (st > 1073741824)) (.ret (.int .i64 3)) (.ret (.int .i64 0))))))
 (.ret (.int .i64 2))))
 (.ret (.int .i64 2)) := by kernel_rfl

end
end Go.Proofs.YtllmgnhjljmihaaGreat
end
section
open Go Go.Proofs Sx
namespace Sx
theorem okRight_iff41 {e s a : Int} : okRight e s a = true ↔ (0 ≤ e ∧ e ≤ 1073741824) ∧ (0 ≤ s ∧ s < 4) ∧ 0 ≤ a ∧ a ≤ 1073741824 := by
  simp [okRight, okTime, okSite]; omega
theorem ret_src41 {P : Program} {H : HV} {w : World} {e s st ap n : Int} {r : Src × Int} (h : r = (⟨e, s, [], st, ap⟩, n)) : (Tree.ret (.tup [.agg [.int .i64 e, .int .i64 s, .nils, .int .i64 st, .int .i64 ap], .int .i64 n])).holds P ⟨w, H⟩ (RetD w H fun ds => .tup [srcSV (ds 0) r.1, .int .i64 r.2]) := by
  obtain ⟨d, k1, k2, k3, k4⟩ := stands_nils (α := Int)
  subst h
  refine ⟨rfl, fun E H' w' g hv => ⟨H', after_good g, fun _ => d, fun E' => ?_, ?_⟩⟩
  · simp only [srcSV, SV.den, SV.denL, D.like_self k2 k3]
    rw [← k1 E]; rfl
  · simp only [srcSV, SV.Ok, SV.OkL] at hv ⊢
    rw [D.like_self k2 k3]
    exact ⟨⟨trivial, trivial, ⟨k4 _ trivial, k2.slc⟩, trivial, trivial, trivial⟩, trivial, trivial⟩
theorem ret_tgt41 {P : Program} {H : HV} {w : World} {t : Tgt} {n : Int} {r : Tgt × Int} (h : r = (t, n)) : (Tree.ret (.tup [.agg [.int .i64 t.epoch, .int .i64 t.site, .int .i64 t.stored, .int .i64 t.applied], .int .i64 n])).holds P ⟨w, H⟩ (RetD w H fun _ => .tup [tgtSV r.1, .int .i64 r.2]) := by
  subst h
  exact ⟨rfl, fun E H' w' g hv => ⟨H', after_good g, fun _ => .slc none 0 [], fun E' => rfl, ⟨⟨trivial, trivial, trivial, trivial, trivial⟩, trivial, trivial⟩⟩⟩
end Sx
namespace Go.Proofs.YtllmgnhjljmihaaGreat
set_option maxRecDepth 100000
set_option maxHeartbeats 0
theorem lawI23 : Law Tryz.prog 48 ((rdD.two rdD).sp spInts) := by
  refine law_in _ (by kernel_rfl) fun H w ⟨a, b⟩ hok hp => ?_
  obtain ⟨ha, hb, hlen⟩ := hp _ (List.mem_singleton.2 rfl)
  simp only at ha hb hlen
  have hla := D.Is.length (α := Int) a
  have hlb := D.Is.length (α := Int) b
  apply exec_sound (noCtr _) 300
  rw [show (rdD.two rdD).canon (a, b) = [.dat a, .dat b] from rfl, i23_in]
  refine ⟨fun hc => ret_lb ?_, fun hc => ?_⟩
  · exact same_not fun he => by simp [hla, hlb, he] at hc
  have hc' : (a.to Int).length = (b.to Int).length := by simp [hla, hlb] at hc; omega
  refine runs_loop (fun j : Nat => i23L a b j) (fun j => j ≤ (a.to Int).length ∧ (a.to Int).take j = (b.to Int).take j) (fun j => (a.to Int).length - j) (fun _ => rfl) ?_ 0 ⟨Nat.zero_le _, rfl⟩
  intro j ⟨hj, hpre⟩ ih
  apply exec_sound (noCtr _) 200
  rw [i23_go]
  refine ⟨fun hc hs => ?_, fun hc => ret_lb ?_⟩
  · have hc : j < (a.to Int).length := by have := of_decide_eq_true hc; omega
    obtain ⟨c1, c2, c3⟩ := int_at ha hc
    obtain ⟨e1, e2, e3⟩ := int_at hb (hc' ▸ hc)
    refine ⟨c1, c2, e1, e2, fun h => ret_lb ?_, fun h => ?_⟩
    · refine same_not fun he => ?_
      simp only [c3, e3, he, bne_self_eq_false] at h
      cases h
    · have hx : (a.to Int)[j] = (b.to Int)[j]'(hc' ▸ hc) := by rw [c3, e3] at h; simpa using h
      have := ih (j + 1) ⟨hc, take_succ_eq hc (hc' ▸ hc) hpre hx⟩ (by omega)
      rw [← wrap_succ hc (by omega)] at this
      exact this
  · have := of_decide_eq_false hc
    exact (decide_eq_true (list_eq_of hc' (by omega) hpre)).symm

theorem ctSmCOk : Ctrs.Ok Tryz.prog ctSmC := by
  intro x hx
  rcases List.mem_cons.1 hx with rfl | hx
  · exact ctrOf_ok lawI23
  · rw [List.mem_singleton.1 hx]; exact ctrOf_ok lawWts
theorem lawFewC : Law Tryz.prog 6 (rdCy.one.sp spFewC) := by
  refine law_in _ (by kernel_rfl) fun H w ⟨x, n, t, p, q⟩ hok hp => ?_
  obtain ⟨hpI, hqI⟩ := hp _ (List.mem_singleton.2 rfl)
  simp only at hpI hqI
  have pl := D.Is.length (α := Int) p
  apply exec_sound (cs := ctFwC) (by intro x hx; rw [List.mem_singleton.1 hx]; exact ctrOf_ok lawFewWR) 200
  rw [show rdCy.one.canon ⟨x, n, t, p, q⟩ = [.agg [.int .i64 x, .int .i64 n, .int .i64 t, .dat p, .dat q]] from rfl, few23_in]
  refine ⟨fun h => ⟨hqI, ret_bool ?_⟩, fun h => ret_lb ?_⟩
  · have h := of_decide_eq_true h
    show fewW (q.to Wt) = (decide ((p.to Int).length ≤ 40) && fewW (q.to Wt))
    rw [decide_eq_true (by omega)]; simp
  · have h := of_decide_eq_false h
    show false = (decide ((p.to Int).length ≤ 40) && fewW (q.to Wt))
    rw [decide_eq_false (by omega)]; rfl
theorem lawSameC : Law Tryz.prog 16 ((rdCy.two rdCy).sp spCySame) := by
  refine law_in _ (by kernel_rfl) fun H w ⟨⟨x, n, t, p, q⟩, ⟨x', n', t', p', q'⟩⟩ hok hp => ?_
  obtain ⟨⟨h1, h2, h3, h4, h5⟩, ⟨k1, k2, k3, k4, k5⟩⟩ := hp _ (List.mem_singleton.2 rfl)
  simp only at h1 h2 h3 h4 h5 k1 k2 k3 k4 k5
  apply exec_sound ctSmCOk 300
  rw [show (rdCy.two rdCy).canon (⟨x, n, t, p, q⟩, ⟨x', n', t', p', q'⟩) = [.agg [.int .i64 x, .int .i64 n, .int .i64 t, .dat p, .dat q], .agg [.int .i64 x', .int .i64 n', .int .i64 t', .dat p', .dat q']] from rfl, same23_in]
  have key : decide ((CyD.mk x n t p q).cy = (CyD.mk x' n' t' p' q').cy) = (decide (x = x') && (decide (n = n') && (decide (t = t') && (decide (p.to Int = p'.to Int) && decide (q.to Wt = q'.to Wt))))) := by
    unfold CyD.cy
    simp only [Cy.mk.injEq]
    rw [Bool.decide_and, Bool.decide_and, Bool.decide_and, Bool.decide_and]
  refine ⟨fun e1 => ⟨fun e2 => ⟨fun e3 => ⟨⟨h1, k1, h3⟩, fun e4 => ⟨⟨h2, k2, h4, h5⟩, ret_bool ?_⟩, fun e4 => ret_lb ?_⟩, fun e3 => ret_lb ?_⟩, fun e2 => ret_lb ?_⟩, fun e1 => ret_lb ?_⟩
  all_goals show _ = decide ((CyD.mk x n t p q).cy = (CyD.mk x' n' t' p' q').cy)
  all_goals rw [key]
  · rw [e1, e2, e3, e4]; rfl
  · rw [e1, e2, e3, e4]; rfl
  · rw [e1, e2, e3]; rfl
  · rw [e1, e2]; rfl
  · rw [e1]; rfl
theorem lawNewS1 : Law Tryz.prog 51 ((rdInt.three rdInt rdInt).sp spNewS) := by
  refine law_in _ (by kernel_rfl) fun H w ⟨e, s, ap⟩ hok hp => ?_
  clear hp hok
  apply exec_sound (noCtr _) 300
  rw [show (rdInt.three rdInt rdInt).canon (e, s, ap) = [.int .i64 e, .int .i64 s, .int .i64 ap] from rfl, ns1_in]
  repeat' first
    | refine ⟨fun hc => ?_, fun hc => ?_⟩
    | refine ret_src41 ?_
  all_goals (simp at *; simp only [newSource]; by_cases hr : okRight e s ap = true <;> simp [hr] <;> rw [okRight_iff41] at hr <;> omega)
theorem lawNewT1 : Law Tryz.prog 50 ((rdInt.three rdInt rdInt).sp spNewT32) := by
  refine law_in _ (by kernel_rfl) fun H w ⟨e, s, ap⟩ hok hp => ?_
  clear hp hok
  apply exec_sound (noCtr _) 300
  rw [show (rdInt.three rdInt rdInt).canon (e, s, ap) = [.int .i64 e, .int .i64 s, .int .i64 ap] from rfl, nt1_in]
  repeat' first
    | refine ⟨fun hc => ?_, fun hc => ?_⟩
    | refine ret_tgt41 (t := ⟨e, s, ap, ap⟩) ?_
    | refine ret_tgt41 (t := ⟨0, 0, 0, 0⟩) ?_
  all_goals (simp at *; simp only [newTarget]; by_cases hr : okRight e s ap = true <;> simp [hr] <;> rw [okRight_iff41] at hr <;> omega)
theorem lawCT1 : Law Tryz.prog 54 (rdTgt.one.sp spCT) := by
  refine law_in _ (by kernel_rfl) fun H w ⟨e, s, st, ap⟩ hok hp => ?_
  apply exec_sound (noCtr _) 300
  rw [show rdTgt.one.canon ⟨e, s, st, ap⟩ = [.agg [.int .i64 e, .int .i64 s, .int .i64 st, .int .i64 ap]] from rfl, ct1_in]
  repeat' first
    | refine ⟨fun hc => ?_, fun hc => ?_⟩
    | refine ret_int ?_
  all_goals (simp only [checkTarget, okTime, okSite]; simp at *; try (repeat' split) <;> simp_all <;> omega)
theorem lawCT2 : Law Tryz.prog 66 (rdTgt.one.sp spCT) := by
  refine law_in _ (by kernel_rfl) fun H w ⟨e, s, st, ap⟩ hok hp => ?_
  apply exec_sound (noCtr _) 300
  rw [show rdTgt.one.canon ⟨e, s, st, ap⟩ = [.agg [.int .i64 e, .int .i64 s, .int .i64 st, .int .i64 ap]] from rfl, ct2_in]
  repeat' first
    | refine ⟨fun hc => ?_, fun hc => ?_⟩
    | refine ret_int ?_
  all_goals (simp only [checkTarget, okTime, okSite]; simp at *; try (repeat' split) <;> simp_all <;> omega)
end Go.Proofs.YtllmgnhjljmihaaGreat
end
section
open Go Go.Proofs Sx
namespace Go.Proofs.YtllmgnhjljmihaaGreat
set_option maxRecDepth 100000
set_option maxHeartbeats 0
noncomputable def ctS32 : Ctrs := [(86, ctrOf ((rdD.two rdInt).sp spHas32)), (80, ctrOf ((rdD.two rdInt).sp spHas32))]

noncomputable def hasL32 (P : Program) (d : D) (n j : Int) : Conf := Conf.mk (SFrm.mk 80 none none
 [Item.inLoop (cAt P 80 [1, 0, 1, 0, 0]), Item.inBlock 0, Item.code (cAt P 80 [1, 1])]
 (mkJ 0 [(0, .dat d), (1, .int .i64 n), (5, .int .i64 j)] 0 18)) [] []
noncomputable def idxL32 (P : Program) (d : D) (n : Int) (j : Int) : Conf := Conf.mk (SFrm.mk 100 none none [Item.inLoop (cAt P 100 [1, 0, 1, 0, 0]), Item.inBlock 0, Item.code (cAt P 100 [1, 1])] (mkJ 0 [(0, .dat d), (1, .int .i64 n), (7, .int .i64 d.len), (8, .int .i64 j)] 0 19)) [] []
noncomputable def cs1L (P : Program) (e s st ap : Int) (d : D) (last j : Int) : Conf := Conf.mk (SFrm.mk 55 none none
 [Item.inLoop (cAt P 55 [1, 1, 1, 1, 0, 1, 0, 0]), Item.inBlock 0, Item.code (cAt P 55 [1, 1, 1, 1, 1])]
 (mkJ 0 [(1, .ptr 0 0), (3, .int .i64 last), (21, .dat d), (22, .int .i64 d.len), (23, .int .i64 j)] 0 49))
 [] [(0, .cells 26 [.int .i64 e, .int .i64 s, .dat d, .int .i64 st, .int .i64 ap])]
noncomputable def cs2L (P : Program) (e s st ap : Int) (d : D) (last j : Int) : Conf := Conf.mk (SFrm.mk 67 none none
 [Item.inLoop (cAt P 67 [1, 1, 1, 1, 0, 1, 0, 0]), Item.inBlock 0, Item.code (cAt P 67 [1, 1, 1, 1, 1])]
 (mkJ 0 [(1, .ptr 0 0), (3, .int .i64 last), (4, .int .i64 j)] 0 67))
 [] [(0, .cells 26 [.int .i64 e, .int .i64 s, .dat d, .int .i64 st, .int .i64 ap])]
noncomputable def sameL32 (P : Program) (e s st ap e' s' st' ap' : Int) (d o : D) (j : Int) : Conf := Conf.mk (SFrm.mk 40 none none
 [Item.inLoop (cAt P 40 [1, 1, 0, 1, 0, 0]), Item.inBlock 0, Item.code (cAt P 40 [1, 1, 1])]
 (mkJ 0 [(2, .ptr 2 0), (3, .ptr 3 0), (5, .int .i64 j)] 0 59))
 [] [(3, .cells 26 [.int .i64 e', .int .i64 s', .dat o, .int .i64 st', .int .i64 ap']), (2, .cells 26 [.int .i64 e, .int .i64 s, .dat d, .int .i64 st, .int .i64 ap])]
section
variable (e s st ap j n last k m e' s' st' ap' : Int) (d d' : D) (o : D)

theorem has_go32 : exec Tryz.prog [] 300 (unroll (hasL32 Tryz.prog d n j)) =
 Tree.br (decide (j < (↑(D.len d) : Int)))
 (.need (0 ≤ j ∧ j < (↑(D.len d) : Int) ∧ D.sz d = 1)
 (.need (D.HasCell d (Int.toNat j) 0 (FT.int .i64))
 (.br (decide (D.getInt d (Int.toNat j) 0 = n)) (.ret (.lb true))
 (.leaf
 (Conf.mk
 (SFrm.mk 80 none none
 [Item.inLoop (cAt Tryz.prog 80 [1, 0, 1, 0, 0]), Item.inBlock 0, Item.code (cAt Tryz.prog 80 [1, 1])]
 (mkJ 0
 [(0, .dat d), (1, .int .i64 n), (5, .int .i64 (IntKind.wrap .i64 (j + 1)))] 0
 18))
 [] [])))))
 (.ret (.lb false)) := by kernel_rfl

theorem idx_go32 : exec Tryz.prog [] 300 (unroll (idxL32 Tryz.prog d n j)) =
 Tree.br (decide (j < (↑(D.len d) : Int)))
 (.need (0 ≤ j ∧ j < (↑(D.len d) : Int) ∧ D.sz d = 1)
 (.need (D.HasCell d (Int.toNat j) 0 (FT.int .i64))
 (.br (decide (n = D.getInt d (Int.toNat j) 0)) (.ret (.int .i64 j))
 (.leaf
 (Conf.mk
 (SFrm.mk 100 none none
 [Item.inLoop (cAt Tryz.prog 100 [1, 0, 1, 0, 0]), Item.inBlock 0, Item.code (cAt Tryz.prog 100 [1, 1])]
 (mkJ 0
 [(0, .dat d), (1, .int .i64 n), (7, .int .i64 (↑(D.len d) : Int)),
 (8, .int .i64 (IntKind.wrap .i64 (j + 1)))]
 0 19))
 [] [])))))
 (.ret (.int .i64 (Int.neg 1))) := by kernel_rfl

theorem cs1_go : exec Tryz.prog ctS32 300 (unroll (cs1L Tryz.prog e s st ap d last j)) =
 Tree.br (decide (j < (↑(D.len d) : Int)))
 (.need (0 ≤ j ∧ j < (↑(D.len d) : Int) ∧ D.sz d = 1)
 (.need (D.HasCell d (Int.toNat j) 0 (FT.int .i64))
 (.br (decide (D.getInt d (Int.toNat j) 0 ≤ last)) (.ret (.int .i64 3))
 (.br (decide (D.getInt d (Int.toNat j) 0 > 1073741824)) (.ret (.int .i64 3))
 (.leaf
 (Conf.mk
 (SFrm.mk 55 none none
 [Item.inLoop (cAt Tryz.prog 55 [1, 1, 1, 1, 0, 1, 0, 0]), Item.inBlock 0,
 Item.code (cAt Tryz.prog 55 [1, 1, 1, 1, 1])]
 (mkJ 0
 [(1, .ptr 0 0), (3, .int .i64 (D.getInt d (Int.toNat j) 0)), (21, .dat d),
 (22, .int .i64 (↑(D.len d) : Int)),
 (23, .int .i64 (IntKind.wrap .i64 (j + 1)))]
 0 49))
 []
 [(0,
 OBlk.cells 26
 [.int .i64 e, .int .i64 s, .dat d, .int .i64 st,
 .int .i64 ap])]))))))
 (.br (st != ap)
 (.need (D.Is Int d ∧ D.len d ≤ 1048576)
 (.br (!List.contains (D.to Int d) st) (.ret (.int .i64 12)) (.ret (.int .i64 0))))
 (.ret (.int .i64 0))) := by kernel_rfl

theorem cs2_go : exec Tryz.prog ctS32 300 (unroll (cs2L Tryz.prog e s st ap d last j)) =
 Tree.br (decide (j < (↑(D.len d) : Int)))
 (.need (0 ≤ j ∧ j < (↑(D.len d) : Int) ∧ D.sz d = 1)
 (.need (D.HasCell d (Int.toNat j) 0 (FT.int .i64))
 (.br (decide (D.getInt d (Int.toNat j) 0 ≤ last)) (.ret (.int .i64 3))
 (.need (0 ≤ j ∧ j < (↑(D.len d) : Int) ∧ D.sz d = 1)
 (.need (D.HasCell d (Int.toNat j) 0 (FT.int .i64))
 (.br (decide (D.getInt d (Int.toNat j) 0 > 1073741824)) (.ret (.int .i64 3))
 (.need (0 ≤ j ∧ j < (↑(D.len d) : Int) ∧ D.sz d = 1)
 (.need (D.HasCell d (Int.toNat j) 0 (FT.int .i64))
 (.leaf
 (Conf.mk
 (SFrm.mk 67 none none
 [Item.inLoop (cAt Tryz.prog 67 [1, 1, 1, 1, 0, 1, 0, 0]), Item.inBlock 0,
 Item.code (cAt Tryz.prog 67 [1, 1, 1, 1, 1])]
 (mkJ 0
 [(1, .ptr 0 0), (3, .int .i64 (D.getInt d (Int.toNat j) 0)),
 (4, .int .i64 (IntKind.wrap .i64 (j + 1)))]
 0 67))
 []
 [(0,
 OBlk.cells 26
 [.int .i64 e, .int .i64 s, .dat d, .int .i64 st,
 .int .i64 ap])]))))))))))
 (.br (st != ap)
 (.need (D.Is Int d ∧ D.len d ≤ 1048576)
 (.br (!List.contains (D.to Int d) st) (.ret (.int .i64 12)) (.ret (.int .i64 0))))
 (.ret (.int .i64 0))) := by kernel_rfl


theorem has_in32 : exec Tryz.prog [] 300 (entry Tryz.prog 80 [.dat d, .int .i64 n]) =
 Tree.leaf
 (Conf.mk
 (SFrm.mk 80 none none
 [Item.inLoop (cAt Tryz.prog 80 [1, 0, 1, 0, 0]), Item.inBlock 0, Item.code (cAt Tryz.prog 80 [1, 1])]
 (mkJ 0 [(0, .dat d), (1, .int .i64 n), (5, .int .i64 0)] 0 18))
 [] []) := by kernel_rfl

theorem idx_in32 : exec Tryz.prog [] 300 (entry Tryz.prog 100 [.dat d, .int .i64 n]) =
 Tree.leaf
 (Conf.mk
 (SFrm.mk 100 none none
 [Item.inLoop (cAt Tryz.prog 100 [1, 0, 1, 0, 0]), Item.inBlock 0, Item.code (cAt Tryz.prog 100 [1, 1])]
 (mkJ 0
 [(0, .dat d), (1, .int .i64 n), (7, .int .i64 (↑(D.len d) : Int)),
 (8, .int .i64 0)]
 0 19))
 [] []) := by kernel_rfl

theorem cs1_in : exec Tryz.prog [] 300 (entry Tryz.prog 55 [.agg [.int .i64 e, .int .i64 s, .dat d, .int .i64 st, .int .i64 ap]]) =
 Tree.br (decide (e ≥ 0))
 (.br (decide (e ≤ 1073741824))
 (.br (decide (s ≥ 0))
 (.br (decide (s < 4))
 (.br (decide (ap ≥ 0))
 (.br (!decide (ap ≤ 1073741824)) (.ret (.int .i64 2))
 (.br (decide ((↑(D.len d) : Int) > 1024)) (.ret (.int .i64 6))
 (.leaf
 (Conf.mk
 (SFrm.mk 55 none none
 [Item.inLoop (cAt Tryz.prog 55 [1, 1, 1, 1, 0, 1, 0, 0]), Item.inBlock 0,
 Item.code (cAt Tryz.prog 55 [1, 1, 1, 1, 1])]
 (mkJ 0
 [(1, .ptr 0 0), (3, .int .i64 ap), (21, .dat d),
 (22, .int .i64 (↑(D.len d) : Int)), (23, .int .i64 0)]
 0 49))
 []
 [(0,
 OBlk.cells 26
 [.int .i64 e, .int .i64 s, .dat d, .int .i64 st,
 .int .i64 ap])]))))
 (.ret (.int .i64 2)))
 (.ret (.int .i64 2)))
 (.ret (.int .i64 2)))
 (.ret (.int .i64 2)))
 (.ret (.int .i64 2)) := by kernel_rfl

theorem cs2_in : exec Tryz.prog [] 300 (entry Tryz.prog 67 [.agg [.int .i64 e, .int .i64 s, .dat d, .int .i64 st, .int .i64 ap]]) =
 Tree.br (decide (e ≥ 0))
 (.br (!decide (e ≤ 1073741824)) (.ret (.int .i64 2))
 (.br (decide (s ≥ 0))
 (.br (!decide (s < 4)) (.ret (.int .i64 2))
 (.br (decide (ap ≥ 0))
 (.br (!decide (ap ≤ 1073741824)) (.ret (.int .i64 2))
 (.br (decide ((↑(D.len d) : Int) > 1024)) (.ret (.int .i64 6))
 (.leaf
 (Conf.mk
 (SFrm.mk 67 none none
 [Item.inLoop (cAt Tryz.prog 67 [1, 1, 1, 1, 0, 1, 0, 0]), Item.inBlock 0,
 Item.code (cAt Tryz.prog 67 [1, 1, 1, 1, 1])]
 (mkJ 0 [(1, .ptr 0 0), (3, .int .i64 ap), (4, .int .i64 0)] 0 67))
 []
 [(0,
 OBlk.cells 26
 [.int .i64 e, .int .i64 s, .dat d, .int .i64 st,
 .int .i64 ap])]))))
 (.ret (.int .i64 2))))
 (.ret (.int .i64 2))))
 (.ret (.int .i64 2)) := by kernel_rfl

theorem same_in32 : exec Tryz.prog [] 300 (entry Tryz.prog 40 [.agg [.int .i64 e, .int .i64 s, .dat d, .int .i64 st, .int .i64 ap], .agg [.int .i64 e', .int .i64 s', .dat o, .int .i64 st', .int .i64 ap']]) =
 Tree.br (e != e') (.ret (.lb false))
 (.br (s != s') (.ret (.lb false))
 (.br (st != st') (.ret (.lb false))
 (.br (ap != ap') (.ret (.lb false))
 (.br ((↑(D.len d) : Int) != (↑(D.len o) : Int)) (.ret (.lb false))
 (.leaf
 (Conf.mk
 (SFrm.mk 40 none none
 [Item.inLoop (cAt Tryz.prog 40 [1, 1, 0, 1, 0, 0]), Item.inBlock 0,
 Item.code (cAt Tryz.prog 40 [1, 1, 1])]
 (mkJ 0 [(2, .ptr 0 0), (3, .ptr 1 0), (5, .int .i64 0)] 0 59))
 []
 [(0,
 OBlk.cells 26
 [.int .i64 e, .int .i64 s, .dat d, .int .i64 st,
 .int .i64 ap]),
 (1,
 OBlk.cells 26
 [.int .i64 e', .int .i64 s', .dat o, .int .i64 st',
 .int .i64 ap'])])))))) := by kernel_rfl

theorem contains_in32 : exec Tryz.prog [(100, ctrOf ((rdD.two rdInt).sp spIdx))] 300 (entry Tryz.prog 86 [.dat d, .int .i64 n]) =
 Tree.need (D.Is Int d ∧ D.len d ≤ 1048576) (.ret (.bool (decide (idxF (D.to Int d) n ≥ 0)))) := by kernel_rfl

end
end Go.Proofs.YtllmgnhjljmihaaGreat
end
section
open Go Go.Proofs Sx
namespace Go.Proofs.YtllmgnhjljmihaaGreat
set_option maxRecDepth 100000
theorem lawHas43 : Law Tryz.prog 80 ((rdD.two rdInt).sp spHas32) := by
  refine law_in _ (by kernel_rfl) fun H w ⟨d, n⟩ hok hp => ?_
  obtain ⟨hd, hlen⟩ := hp _ (List.mem_singleton.2 rfl)
  simp only at hd hlen
  rw [D.Is.length (α := Int)] at hlen
  apply exec_sound (noCtr _) 300
  rw [show (rdD.two rdInt).canon (d, n) = [.dat d, .int .i64 n] from rfl, has_in32]
  refine runs_loop (fun j : Nat => hasL32 Tryz.prog d n j) (fun j => j ≤ (d.to Int).length ∧ ((d.to Int).take j).contains n = false) (fun j => (d.to Int).length - j) (fun _ => rfl) ?_ 0 ⟨Nat.zero_le _, by simp⟩
  intro j ⟨hj, hpre⟩ ih
  apply exec_sound (noCtr _) 300
  rw [has_go32]
  have hl := D.Is.length (α := Int) d
  refine ⟨fun hc => ?_, fun hc => ?_⟩
  · simp [hl] at hc
    obtain ⟨c1, c2, c3⟩ := int_at hd hc
    rw [c3]
    refine ⟨c1, c2, fun hc2 => ret_lb ?_, fun hc2 => ?_⟩
    · simp at hc2
      symm
      rw [List.contains_iff_mem, ← hc2]
      exact List.getElem_mem hc
    · have := ih (j + 1) ⟨hc, by rw [take_has hc, hpre]; simpa using hc2⟩ (by omega)
      rw [← wrap_succ hc hlen] at this
      exact this
  · simp [hl] at hc
    have : j = (d.to Int).length := by omega
    subst this
    rw [List.take_length] at hpre
    exact ret_lb hpre.symm

theorem lawIdx32 : Law Tryz.prog 100 ((rdD.two rdInt).sp spIdx) := by
  refine law_in _ (by kernel_rfl) fun H w ⟨d, n⟩ hok hp => ?_
  obtain ⟨hd, hlen⟩ := hp _ (List.mem_singleton.2 rfl)
  simp only at hd hlen
  rw [D.Is.length (α := Int)] at hlen
  apply exec_sound (noCtr _) 300
  rw [show (rdD.two rdInt).canon (d, n) = [.dat d, .int .i64 n] from rfl, idx_in32]
  refine runs_loop (fun j : Nat => idxL32 Tryz.prog d n j) (fun j => j ≤ (d.to Int).length ∧ ((d.to Int).take j).findIdx? (fun x => n == x) = none) (fun j => (d.to Int).length - j) (fun _ => rfl) ?_ 0 ⟨Nat.zero_le _, by simp⟩
  intro j ⟨hj, hpre⟩ ih
  apply exec_sound (noCtr _) 300
  rw [idx_go32]
  have hl := D.Is.length (α := Int) d
  refine ⟨fun hc => ?_, fun hc => ?_⟩
  · simp [hl] at hc
    obtain ⟨c1, c2, c3⟩ := int_at hd hc
    rw [c3]
    refine ⟨c1, c2, fun hc2 => ret_int ?_, fun hc2 => ?_⟩
    · have : (d.to Int).findIdx? (fun x => n == x) = some j := by
        rw [List.findIdx?_eq_some_iff_getElem]
        refine ⟨hc, hc2, fun i hi => ?_⟩
        rw [List.findIdx?_eq_none_iff] at hpre
        have := hpre (d.to Int)[i] (List.mem_take_iff_getElem.2 ⟨i, by omega, rfl⟩)
        simpa using this
      simp [idxF, this]
    · have := ih (j + 1) ⟨hc, by rw [List.take_succ_eq_append_getElem hc, List.findIdx?_append, hpre]; simp at hc2; simp [hc2]⟩ (by omega)
      rw [← wrap_succ hc hlen] at this
      exact this
  · simp [hl] at hc
    have : j = (d.to Int).length := by omega
    subst this
    rw [List.take_length] at hpre
    exact ret_int (by simp only [idxF, hpre]; rfl)

theorem ctIdx32 : Ctrs.Ok Tryz.prog [(100, ctrOf ((rdD.two rdInt).sp spIdx))] := by
  intro x hx
  rw [List.mem_singleton.1 hx]
  exact ctrOf_ok lawIdx32

theorem idxF_has (xs : List Int) (n : Int) : decide (idxF xs n ≥ 0) = xs.contains n := by
  rw [Bool.eq_iff_iff, List.contains_iff_mem]
  simp only [idxF, ge_iff_le, decide_eq_true_eq]
  cases hf : xs.findIdx? (fun x => n == x) with
  | none =>
    rw [List.findIdx?_eq_none_iff] at hf
    simp only
    constructor
    · intro h; omega
    · intro h; have := hf n h; simp at this
  | some i =>
    rw [List.findIdx?_eq_some_iff_getElem] at hf
    obtain ⟨hi, h1, _⟩ := hf
    simp at h1
    simp only [h1, List.getElem_mem, iff_true]
    omega

theorem lawHas42 : Law Tryz.prog 86 ((rdD.two rdInt).sp spHas32) := by
  refine law_in _ (by kernel_rfl) fun H w ⟨d, n⟩ hok hp => ?_
  apply exec_sound ctIdx32 300
  rw [show (rdD.two rdInt).canon (d, n) = [.dat d, .int .i64 n] from rfl, contains_in32]
  exact ⟨hp _ (List.mem_singleton.2 rfl), ret_bool (idxF_has _ _)⟩

theorem ctS32Ok : Ctrs.Ok Tryz.prog ctS32 := by
  intro x hx
  simp only [ctS32, List.mem_cons, List.not_mem_nil, or_false] at hx
  rcases hx with rfl | rfl
  · exact ctrOf_ok lawHas42
  · exact ctrOf_ok lawHas43

theorem asc_drop {xs : List Int} {j : Nat} (h : j < xs.length) (l : Int) : asc32 l (xs.drop j) = (decide (l < xs[j]) && decide (xs[j] ≤ 1073741824) && asc32 xs[j] (xs.drop (j + 1))) := by
  rw [List.drop_eq_getElem_cons h]; rfl

theorem cs_eq {e s st ap : Int} {xs : List Int} (h1 : okRight e s ap = true) (h2 : xs.length ≤ 1024) :
    checkSource ⟨e, s, xs, st, ap⟩ = if asc32 ap xs = false then 3 else if st ≠ ap ∧ st ∉ xs then 12 else 0 := by
  simp only [checkSource, h1, Bool.true_eq_false, if_false]
  rw [if_neg (by omega)]

theorem cs1_loop {H : HV} {d : D} (hd : d.Is Int) (e s st ap : Int) (w : World) (h1 : okRight e s ap = true) (h2 : (d.to Int).length ≤ 1024) :
    Runs Tryz.prog ⟨w, H⟩ (cs1L Tryz.prog e s st ap d ap 0) (RetS w H (.int .i64 (checkSource ⟨e, s, d.to Int, st, ap⟩))) := by
  have hcs := cs_eq (st := st) h1 h2
  refine runs_loop (fun p : Int × Nat => cs1L Tryz.prog e s st ap d p.1 p.2) (fun p => p.2 ≤ (d.to Int).length ∧ asc32 ap (d.to Int) = asc32 p.1 ((d.to Int).drop p.2)) (fun p => (d.to Int).length - p.2) (fun _ => rfl) ?_ (ap, 0) ⟨Nat.zero_le _, by simp⟩
  intro ⟨last, j⟩ ⟨hj, hpre⟩ ih
  simp only at hj hpre
  apply exec_sound ctS32Ok 300
  rw [cs1_go]
  have hl := D.Is.length (α := Int) d
  refine ⟨fun hc => ?_, fun hc => ?_⟩
  · simp [hl] at hc
    obtain ⟨c1, c2, c3⟩ := int_at hd hc
    rw [c3]
    rw [asc_drop hc] at hpre
    refine ⟨c1, c2, fun hc2 => ret_int ?_, fun hc2 => ⟨fun hc3 => ret_int ?_, fun hc3 => ?_⟩⟩
    · simp at hc2
      rw [hcs, hpre]
      simp; omega
    · simp at hc3
      rw [hcs, hpre]
      simp; omega
    · have := ih ((d.to Int)[j], j + 1) ⟨hc, by simp at hc2 hc3; rw [hpre]; simp; omega⟩ (by simp; omega)
      simp only at this
      rw [← wrap_succ hc (by omega)] at this
      exact this
  · simp [hl] at hc
    have : j = (d.to Int).length := by omega
    subst this
    simp [asc32] at hpre
    rw [hcs, hpre]
    refine ⟨fun hc2 => ⟨⟨hd, by rw [hl]; omega⟩, fun hc3 => ret_int ?_, fun hc3 => ret_int ?_⟩, fun hc2 => ret_int ?_⟩
    · simp at hc2 hc3; simp [hc2, hc3]
    · simp at hc2 hc3; simp [hc2, hc3]
    · simp at hc2; simp [hc2]

theorem cs2_loop {H : HV} {d : D} (hd : d.Is Int) (e s st ap : Int) (w : World) (h1 : okRight e s ap = true) (h2 : (d.to Int).length ≤ 1024) :
    Runs Tryz.prog ⟨w, H⟩ (cs2L Tryz.prog e s st ap d ap 0) (RetS w H (.int .i64 (checkSource ⟨e, s, d.to Int, st, ap⟩))) := by
  have hcs := cs_eq (st := st) h1 h2
  refine runs_loop (fun p : Int × Nat => cs2L Tryz.prog e s st ap d p.1 p.2) (fun p => p.2 ≤ (d.to Int).length ∧ asc32 ap (d.to Int) = asc32 p.1 ((d.to Int).drop p.2)) (fun p => (d.to Int).length - p.2) (fun _ => rfl) ?_ (ap, 0) ⟨Nat.zero_le _, by simp⟩
  intro ⟨last, j⟩ ⟨hj, hpre⟩ ih
  simp only at hj hpre
  apply exec_sound ctS32Ok 300
  rw [cs2_go]
  have hl := D.Is.length (α := Int) d
  refine ⟨fun hc => ?_, fun hc => ?_⟩
  · simp [hl] at hc
    obtain ⟨c1, c2, c3⟩ := int_at hd hc
    rw [c3]
    rw [asc_drop hc] at hpre
    refine ⟨c1, c2, fun hc2 => ret_int ?_, fun hc2 => ⟨c1, c2, fun hc3 => ret_int ?_, fun hc3 => ⟨c1, c2, ?_⟩⟩⟩
    · simp at hc2
      rw [hcs, hpre]
      simp; omega
    · simp at hc3
      rw [hcs, hpre]
      simp; omega
    · have := ih ((d.to Int)[j], j + 1) ⟨hc, by simp at hc2 hc3; rw [hpre]; simp; omega⟩ (by simp; omega)
      simp only at this
      rw [← wrap_succ hc (by omega)] at this
      exact this
  · simp [hl] at hc
    have : j = (d.to Int).length := by omega
    subst this
    simp [asc32] at hpre
    rw [hcs, hpre]
    refine ⟨fun hc2 => ⟨⟨hd, by rw [hl]; omega⟩, fun hc3 => ret_int ?_, fun hc3 => ret_int ?_⟩, fun hc2 => ret_int ?_⟩
    · simp at hc2 hc3; simp [hc2, hc3]
    · simp at hc2 hc3; simp [hc2, hc3]
    · simp at hc2; simp [hc2]

theorem lawCS1 : Law Tryz.prog 55 (rdSrc.one.sp spCS) := by
  refine law_in _ (by kernel_rfl) fun H w ⟨e, s, d, st, ap⟩ hok hp => ?_
  have hd : d.Is Int := hp _ (List.mem_singleton.2 rfl)
  apply exec_sound (noCtr _) 300
  rw [show rdSrc.one.canon ⟨e, s, d, st, ap⟩ = [.agg [.int .i64 e, .int .i64 s, .dat d, .int .i64 st, .int .i64 ap]] from rfl, cs1_in]
  have hl := D.Is.length (α := Int) d
  clear hp
  repeat' first
    | refine ⟨fun hc => ?_, fun hc => ?_⟩
    | refine ret_int ?_
  all_goals first
    | exact cs1_loop hd e s st ap w (by rw [okRight_iff41]; simp at *; omega) (by simp at *; omega)
    | (simp at *; simp only [checkSource, SrcD.src]; by_cases hr : okRight e s ap = true <;> simp [hr] <;> rw [okRight_iff41] at hr <;> omega)

theorem lawCS2 : Law Tryz.prog 67 (rdSrc.one.sp spCS) := by
  refine law_in _ (by kernel_rfl) fun H w ⟨e, s, d, st, ap⟩ hok hp => ?_
  have hd : d.Is Int := hp _ (List.mem_singleton.2 rfl)
  apply exec_sound (noCtr _) 300
  rw [show rdSrc.one.canon ⟨e, s, d, st, ap⟩ = [.agg [.int .i64 e, .int .i64 s, .dat d, .int .i64 st, .int .i64 ap]] from rfl, cs2_in]
  have hl := D.Is.length (α := Int) d
  clear hp
  repeat' first
    | refine ⟨fun hc => ?_, fun hc => ?_⟩
    | refine ret_int ?_
  all_goals first
    | exact cs2_loop hd e s st ap w (by rw [okRight_iff41]; simp at *; omega) (by simp at *; omega)
    | (simp at *; simp only [checkSource, SrcD.src]; by_cases hr : okRight e s ap = true <;> simp [hr] <;> rw [okRight_iff41] at hr <;> omega)

end Go.Proofs.YtllmgnhjljmihaaGreat
end
section
namespace Sx
open Go RowKit
def cellOk (m : Mem) : SV → Bool
  | .int .. => true
  | .bool _ => true
  | .lb _ => true
  | .str _ => true
  | .nils => true
  | .dat _ => true
  | .vec j => match m.get j with
    | some (.arr ..) => true
    | some (.pub _) => true
    | _ => false
  | _ => false

def cellsOk (m : Mem) : List SV → Bool
  | [] => true
  | c :: r => cellOk m c && cellsOk m r
abbrev PSpec := List SV → List SV → Option (List Prop × ((Nat → D) → SV))
def rowD (b : Nat) (row : List D) : D := .slc (some (⟨b, 0, none⟩, 1)) row.length [row]

def PLaw (P : Program) (f : FuncId) (spec : PSpec) : Prop :=
  Bodied P f = true ∧ ∀ (H : HV) (E : Env) (b : Nat) (row : List D) (cs args : List SV), (rowD b row).Ok H → (∀ o, row.length ≤ o → H b o = none) → SV.denL E cs = row.map D.val → SV.OkL H args →
    match spec cs args with
    | some (ps, g) => (∀ p, p ∈ ps → p) → PCall P f H (SV.denL E (.elt (rowD b row) 0 0 :: args)) fun H' u =>
        ∃ hs, u = (g hs).den E ∧ ∀ H2, (∀ b' o v, b' ≠ b → H' b' o = some v → H2 b' o = some v) → (g hs).Ok H2
    | none => True

def pCtr (spec : PSpec) : Ctr := fun args _ m =>
  match args with
  | .ptr k 0 :: rest => match m.get k with
    | some (.cells _ cs) => match cellsOk m cs with
      | true => match spec cs (closeL (pubsR (leavesL rest) m) rest) with
        | some (ps, g) => .all ps fun hs => (g hs, pubsR (leavesL rest) m)
        | none => .bad
      | false => .bad
    | _ => .bad
  | _ => .bad




theorem get_pub_cells {m : Mem} {k : Nat} {t : TypeId} {cs : List SV} (h : m.get k = some (.cells t cs)) (x : SV) : (pubR m x).get k = some (.cells t cs) := by
  unfold pubR
  split
  · rename_i j
    split
    · rename_i e d hj
      have hne : k ≠ j := by rintro rfl; rw [h] at hj; cases hj
      rw [Mem.get_set hj]
      simp [hne, h]
    · exact h
  · exact h

theorem get_pubs_cells {k : Nat} {t : TypeId} {cs : List SV} : ∀ (l : List SV) {m : Mem}, m.get k = some (.cells t cs) → (pubsR l m).get k = some (.cells t cs)
  | [], _, h => h
  | x :: r, _, h => get_pubs_cells r (get_pub_cells h x)

end Sx
end
section
namespace Sx
open Go RowKit Go.Sort
def Deletes (P : Program) (f : FuncId) : Prop := ∀ (blk cap i j : Nat) (zs : List Int) (w : World), Holds (Value.int .i64) w blk 0 zs.toArray → zs.length ≤ cap → cap ≤ 9223372036854775807 → i ≤ j → j ≤ zs.length →
  Calls P f #[.slice (some ⟨blk, 0, none⟩) zs.length cap, .int .i64 i, .int .i64 j] w fun e w' => e = .returned (.slice (some ⟨blk, 0, none⟩) (zs.length - (j - i)) cap) ∧ ∃ q, w' = putRow (Value.int .i64) (Sort.ahead w q) blk 0 (zs.take i ++ zs.drop j ++ List.replicate (j - i) 0).toArray

def dCtr (e : TypeId) : Ctr := fun args key m => match args with
  | [.vec k, .int .i64 i, .int .i64 j] => match m.get k with
    | some (.arr e' d) => if e' = e then .all [d.Is Int ∧ 0 ≤ i ∧ i < j ∧ j ≤ (d.len : Int)] fun _ => (.vec key, (key, .arr e (.slc d.hd d.sz (d.rows.take i.toNat ++ d.rows.drop j.toNat))) :: m.del k) else .bad
    | _ => .bad
  | _ => .bad








end Sx
end
section
namespace Sx
open Go RowKit

def vCtr (spec : List SV → SpecR) : Ctr := fun args _ m => match args with
  | [.view k s lo n, x] => match m.get k with
    | some (.arr _ d) => match spec [.dat (d.sub lo (lo + n)), x] with
      | .scalar ps v => match v.flat && x.flat with
        | true => .val ((d.sz = s ∧ lo + n ≤ d.len) :: ps) v m
        | false => .bad
      | _ => .bad
    | _ => .bad
  | _ => .bad
def lCtr (spec : OSpec) : Ctr := fun args key m =>
  match spec (closeL (pubsR (leavesL args) m) args) with
  | some (ps, e, mk) => .all ps fun hs => (.vec key, (key, .arr e (mk (hs 0))) :: m)
  | none => .bad
def shK (B k : Nat) : Nat := match Nat.ble PIN k with
  | true => k
  | false => k + B
def shiftC (B : Nat) (c : Conf) : Option Conf := match c.allKeys.all fun k => Nat.ble PIN k || Nat.blt (k + B) PIN with
  | true => some (renWith (shK B) c)
  | false => none
def spOwnI {β : Type} (r : Rd β) (e : TypeId) (ps : β → List Prop) (l : β → List Int) : OSpec := fun args => match r.read args with
  | some b => some (ps b, e, fun h => .slc h.hd 1 ((l b).map fun n => [.int .i64 n]))
  | none => none
end Sx
end
section
namespace Sx
open Go RowKit
def viewOut (k b off : Nat) (c : Conf) : Option (Prop × Conf) :=
  match c.mem.get k with
  | some (.arr _ d) => match (c.mem.set k (.pub d)).get b with
    | some (.cells t cs) => match cs[off]? with
      | some (.view j s lo n) => match Nat.beq j k with
        | true => some (d.sz = s ∧ lo + n ≤ d.len, ⟨c.top, c.rest, (c.mem.set k (.pub d)).set b (.cells t (cs.set off (.dat (d.sub lo (lo + n)))))⟩)
        | false => none
      | _ => none
    | _ => none
  | _ => none
theorem viewOut_to {P : Program} {C : Ctx} {R : Value → World → Prop} (k b off : Nat) {c : Conf} (p : Prop) (c' : Conf) (hc : viewOut k b off c = some (p, c')) (hp : p) (h : Runs P C c' R) : Runs P C c R := by
  intro E H w g ok
  unfold viewOut at hc
  split at hc
  · rename_i e d hg
    split at hc
    · rename_i t cs hg2
      split at hc
      · rename_i j s lo n hn
        split at hc
        · rename_i hj
          have hj : j = k := Nat.eq_of_beq_eq_true hj
          subst hj
          simp only [Option.some.injEq, Prod.mk.injEq] at hc
          obtain ⟨hpe, hce⟩ := hc
          subst hpe
          obtain ⟨p1, p2⟩ := hp
          obtain ⟨H', hle, g1, dok, _⟩ := g.publish hg
          obtain ⟨hd, sz, rows, rfl, hv, _⟩ := g.own j _ (Mem.get_mem hg)
          have hsub := (sub_ok dok (l := lo) (h := lo + n) (by omega) p2).1
          have hden1 : (SV.dat ((D.slc hd sz rows).sub lo (lo + n))).den E = (SV.view j s lo n).den E := by
            simp only [D.len, D.rows] at p2
            simp only [D.sz] at p1
            subst p1
            have e2 : ((rows.drop lo).take n).length = n := by rw [List.length_take, List.length_drop]; omega
            simp only [SV.den, hv, D.sub, D.val, D.hd, D.rows, D.sz, Nat.add_sub_cancel_left, e2]
            rfl
          have hmem := Mem.get_mem hg2
          have hden : SV.denL E (cs.set off (.dat ((D.slc hd sz rows).sub lo (lo + n)))) = SV.denL E cs := by
            rw [denL_set, SV.denL_eq]
            apply List.ext_getElem?
            intro i
            by_cases hi : i = off
            · subst hi
              rw [List.getElem?_set_self (by have := (List.getElem?_eq_some_iff.1 hn).1; simpa using this)]
              simp only [List.getElem?_map, hn, Option.map_some, hden1]
            · rw [List.getElem?_set_ne (Ne.symm hi)]
          have hspec := Mem.set_spec (o' := .cells t (cs.set off (.dat ((D.slc hd sz rows).sub lo (lo + n))))) g1.keys hg2
          have g2 : Good C ((c.mem.set j (.pub (D.slc hd sz rows))).set b (.cells t (cs.set off (.dat ((D.slc hd sz rows).sub lo (lo + n)))))) E H' w := by
            refine ⟨g1.below, g1.ext, g1.fresh, g1.cell, fun k o hko => ?_, ?_, fun x y hx hy hne hlx hly => ?_, g1.fix⟩
            · rcases hspec k o hko with ⟨rfl, rfl⟩ | ⟨hne, hm⟩
              · obtain ⟨a1, a2, a3, a4⟩ := g1.own k _ hmem
                exact ⟨a1, by rw [hden]; exact a2, a3, okL_putS (dst := some off) a4 ⟨hsub, _, _, _, rfl⟩⟩
              · exact g1.own k o hm
            · have := g1.keys
              rw [pairwise_keys] at this ⊢
              simpa [Mem.set_keys] using this
            · have old : ∀ z : Nat × OBlk, z ∈ (c.mem.set j (.pub (D.slc hd sz rows))).set b (.cells t (cs.set off (.dat ((D.slc hd sz rows).sub lo (lo + n))))) → z.2.Lies → ∃ o, (z.1, o) ∈ c.mem.set j (.pub (D.slc hd sz rows)) ∧ o.Lies := by
                intro z hz hl
                rcases hspec z.1 z.2 hz with ⟨h1, h2⟩ | ⟨_, hm⟩
                · exact ⟨.cells t cs, by rw [h1]; exact hmem, trivial⟩
                · exact ⟨_, hm, hl⟩
              obtain ⟨ox, hx1, hx2⟩ := old x hx hlx
              obtain ⟨oy, hy1, hy2⟩ := old y hy hly
              exact g1.apart (x.1, ox) (y.1, oy) hx1 hy1 hne hx2 hy2
          subst hce
          exact h E H' w g2 ⟨SV.OkL.mono hle _ ok.1, fun f hf => SV.OkL.mono hle _ (ok.2 f hf)⟩
        · cases hc
      · cases hc
    · cases hc
  · cases hc
end Sx
end
section
open Go Go.Proofs Sx
namespace Go.Proofs.YtllmgnhjljmihaaGreat
set_option maxRecDepth 100000
set_option maxHeartbeats 0
noncomputable def ctO : Ctrs := [(55, ctrOf (rdSrc.one.sp spCS)), (86, ctrOf ((rdD.two rdInt).sp spHas32)), (100, ctrOf ((rdD.two rdInt).sp spIdx)), (62, oCtr (spClone Int 3))]
noncomputable def ctOR : Ctrs := [(67, ctrOf (rdSrc.one.sp spCS)), (80, ctrOf ((rdD.two rdInt).sp spHas32))]
section
variable (e s st ap n mk mf mt mn mv me : Int) (d mb ml : D)
theorem ofr_in : 
 let z1 : Tree := (.br (decide (n > 1073741824)) (.ret (SV.tup [.agg [.int .i64 0, .int .i64 0, .nils, .int .i64 0, .int .i64 0], .nils, .int .i64 2])) (.br (decide ((↑(D.len d) : Int) ≥ 1024)) (.ret (SV.tup [.agg [.int .i64 0, .int .i64 0, .nils, .int .i64 0, .int .i64 0], .nils, .int .i64 6])) (.need (D.Is Int d ∧ D.len d ≤ 1048576) (.all fun hs => .all fun hs_1 => .need (D.sz (D.slc (D.hd (hs 0 0)) 1 (D.rows d)) = 1 ∧ D.Fits (D.slc (D.hd (hs_1 0 0)) 1 [[D.int .i64 n]]) 1 ∧ (D.len (D.slc (D.hd (hs 0 0)) 1 (D.rows d)) + D.len (D.slc (D.hd (hs_1 0 0)) 1 [[D.int .i64 n]])) * 8 ≤ 140737488355328 ∧ D.len (D.slc (D.hd (hs 0 0)) 1 (D.rows d)) + D.len (D.slc (D.hd (hs_1 0 0)) 1 [[D.int .i64 n]]) ≤ 9223372036854775807) (.all fun hs_2 => .all fun hs_3 => .need (D.Fits (D.slc (D.hd (hs_3 18 0)) 8 [[D.int .i64 8, D.int .i64 0, D.int .i64 s, D.int .i64 n, D.int .i64 0, D.int .i64 e, D.slc none 0 [], D.slc none 0 []]]) 8 ∧ D.len (D.slc (D.hd (hs_3 18 0)) 8 [[D.int .i64 8, D.int .i64 0, D.int .i64 s, D.int .i64 n, D.int .i64 0, D.int .i64 e, D.slc none 0 [], D.slc none 0 []]]) * 96 ≤ 140737488355328 ∧ D.len (D.slc (D.hd (hs_3 18 0)) 8 [[D.int .i64 8, D.int .i64 0, D.int .i64 s, D.int .i64 n, D.int .i64 0, D.int .i64 e, D.slc none 0 [], D.slc none 0 []]]) ≤ 9223372036854775807) (.all fun hs_4 => .ret (SV.tup [.agg [.int .i64 e, .int .i64 s, .dat (D.slc (D.hd (hs_2 0 0)) 1 (List.append (D.rows (D.slc (D.hd (hs 0 0)) 1 (D.rows d))) (D.rows (D.slc (D.hd (hs_1 0 0)) 1 [[D.int .i64 n]])))), .int .i64 st, .int .i64 ap], .dat (D.slc (D.hd (hs_3 19 0)) 8 (D.rows (D.slc (D.hd (hs_3 18 0)) 8 [[D.int .i64 8, D.int .i64 0, D.int .i64 s, D.int .i64 n, D.int .i64 0, D.int .i64 e, D.slc none 0 [], D.slc none 0 []]]))), .int .i64 0])))))))
 exec Tryz.prog ctO 400 (entry Tryz.prog 29 [.agg [.int .i64 e, .int .i64 s, .dat d, .int .i64 st, .int .i64 ap], .int .i64 n]) =
 Tree.need (D.Is Int d) (.br (checkSource (SrcD.src (SrcD.mk e s d st ap)) != 0) (.ret (SV.tup [.agg [.int .i64 0, .int .i64 0, .nils, .int .i64 0, .int .i64 0], .nils, .int .i64 (checkSource (SrcD.src
 (SrcD.mk e s d st ap)))])) (.br (decide ((↑(D.len d) : Int) > 0)) (.need (0 ≤ IntKind.wrap .i64 ((↑(D.len d) : Int) - 1) ∧ IntKind.wrap .i64 ((↑(D.len d) : Int) - 1) < (↑(D.len d) : Int) ∧ D.sz d = 1)
 (.need (D.HasCell d (Int.toNat (IntKind.wrap .i64 ((↑(D.len d) : Int) - 1))) 0 (FT.int .i64)) (.br (decide (n ≤ D.getInt d (Int.toNat (IntKind.wrap .i64 ((↑(D.len d) : Int) - 1))) 0)) (.ret (SV.tup [.agg [.int .i64 0, .int .i64 0, .nils, .int .i64 0, .int .i64 0], .nils, .int .i64 8])) z1)))
 (.br (decide (n ≤ ap)) (.ret (SV.tup [.agg [.int .i64 0, .int .i64 0, .nils, .int .i64 0, .int .i64 0], .nils, .int .i64 8])) z1))) := by
 intros; kernel_rfl

theorem lrn_in : 
 let z1 : Tree := (.ret (SV.tup [.agg [.int .i64 e, .int .i64 s, .dat d, .int .i64 st, .int .i64 ap], .nils]))
 let z2 : Tree := (.all fun hs => .all fun hs => .ret (SV.tup [.agg [.int .i64 me, .int .i64 s, .nils, .int .i64 ap, .int .i64 ap], .nils]))
 goS Tryz.prog ctO (fun _ => false) [(78, 26)] 600 (entry Tryz.prog 42 [.agg [.int .i64 e, .int .i64 s, .dat d, .int .i64 st, .int .i64 ap], .agg [.int .i64 mk, .int .i64 mf, .int .i64 mt, .int .i64 mn, .int .i64 mv, .int .i64 me, .dat mb, .dat ml]]) =
 Tree.need (D.Is Int d) (.br (checkSource (SrcD.src (SrcD.mk e s d st ap)) != 0) z1 (.br (mf != s) z1 (.br (decide (me < e)) z1 (.br (decide (me ≥ 0)) (.br (!decide (me ≤ 1073741824)) z1 (.need (D.Is Int d ∧ D.len d ≤ 1048576)
 (.all fun hs => .br (decide (mk = 9)) (.br (decide (me > e)) z2 (.need (D.Is Int (D.slc (D.hd (hs 0 0)) 1 (D.rows d)) ∧ D.len (D.slc (D.hd (hs 0 0)) 1 (D.rows d)) ≤ 1048576) (.br (List.contains (D.to Int
 (D.slc (D.hd (hs 0 0)) 1 (D.rows d))) mv) (.br (decide (mv ≥ st)) (.all fun hs_1 => .need (D.Fits (D.slc (D.hd (hs_1 18 0)) 8 [[D.int .i64 10, D.int .i64 0, D.int .i64 s, D.int .i64 mv, D.int .i64 0, D.int .i64 e, D.slc none 0 [], D.slc none 0 []]]) 8 ∧ D.len
 (D.slc (D.hd (hs_1 18 0)) 8 [[D.int .i64 10, D.int .i64 0, D.int .i64 s, D.int .i64 mv, D.int .i64 0, D.int .i64 e, D.slc none 0 [], D.slc none 0 []]]) * 96 ≤ 140737488355328 ∧ D.len (D.slc (D.hd (hs_1 18 0)) 8 [[D.int .i64 10, D.int .i64 0, D.int .i64 s, D.int .i64 mv, D.int .i64 0, D.int .i64 e, D.slc none 0 [], D.slc none 0 []]]) ≤ 9223372036854775807)
 (.all fun hs_2 => .ret (SV.tup [.agg [.int .i64 e, .int .i64 s, .dat (D.slc (D.hd (hs 0 0)) 1 (D.rows d)), .int .i64 mv, .int .i64 ap], .dat (D.slc (D.hd (hs_1 19 0)) 8 (D.rows (D.slc (D.hd (hs_1 18 0)) 8 [[D.int .i64 10, D.int .i64 0, D.int .i64 s, D.int .i64 mv, D.int .i64 0, D.int .i64 e, D.slc none 0 [], D.slc none 0 []]])))])))
 (.all fun hs_1 => .ret (SV.tup [.agg [.int .i64 e, .int .i64 s, .dat (D.slc (D.hd (hs 0 0)) 1 (D.rows d)), .int .i64 st, .int .i64 ap], .nils]))) (.all fun hs_1 => .ret (SV.tup [.agg [.int .i64 e, .int .i64 s, .dat
 (D.slc (D.hd (hs 0 0)) 1 (D.rows d)), .int .i64 st, .int .i64 ap], .nils]))))) (.br (decide (mk = 11)) (.br (decide (me > e)) z2 (.need (D.Is Int (D.slc (D.hd (hs 0 0)) 1 (D.rows d)) ∧ D.len (D.slc (D.hd
 (hs 0 0)) 1 (D.rows d)) ≤ 1048576) (.br (decide (idxF (D.to Int (D.slc (D.hd (hs 0 0)) 1 (D.rows d))) mv ≥ 0)) (.need (0 ≤ IntKind.wrap .i64 (idxF (D.to Int (D.slc (D.hd (hs 0 0)) 1 (D.rows d))) mv + 1) ∧ IntKind.wrap .i64
 (idxF (D.to Int (D.slc (D.hd (hs 0 0)) 1 (D.rows d))) mv + 1) ≤ (↑(D.len (D.slc (D.hd (hs 0 0)) 1 (D.rows d))) : Int) ∧ D.Fits (D.slc (D.hd (hs 0 0)) 1 (D.rows d)) 1) (.leaf (Conf.mk (SFrm.mk 78 none none [Item.code
 (cAt Tryz.prog 78 [1, 1, 0, 1])] (mkJ 1 [(0, .ptr 0 0), (1, .int .i64 mv)] 0 42)) [SFrm.mk 42 (some (opsAt Tryz.prog 42 [1, 1, 1, 1, 0, 0, 1, 1, 1, 1], [])) (some 52) [Item.inBlock 0, Item.code (cAt Tryz.prog 42 [1, 1, 1, 1, 1])]
 (mkJ 0 [(4, .ptr 1 0), (6, .ptr 0 0)] 0 89)] [(0, OBlk.cells 114 [.int .i64 e, .int .i64 s, SV.view 2 1 (Int.toNat (IntKind.wrap .i64 (idxF (D.to Int (D.slc (D.hd (hs 0 0)) 1 (D.rows d))) mv + 1))) (D.len
 (D.slc (D.hd (hs 0 0)) 1 (D.rows d)) - Int.toNat (IntKind.wrap .i64 (idxF (D.to Int (D.slc (D.hd (hs 0 0)) 1 (D.rows d))) mv + 1))), .int .i64 st, .int .i64 ap, .nils]), (1, OBlk.cells 26 [.int .i64 0, .int .i64 0, .nils, .int .i64 0, .int .i64 0]),
 (2, OBlk.arr 3 (D.slc (D.hd (hs 0 0)) 1 (D.rows d)))]))) (.all fun hs_1 => .ret (SV.tup [.agg [.int .i64 e, .int .i64 s, .dat (D.slc (D.hd (hs 0 0)) 1 (D.rows d)), .int .i64 st, .int .i64 ap], .nils])))))
 (.br (decide (mk = 12)) (.br (decide (me > e)) z2 (.all fun hs_1 => .ret (SV.tup [.agg [.int .i64 e, .int .i64 s, .dat (D.slc (D.hd (hs 0 0)) 1 (D.rows d)), .int .i64 st, .int .i64 ap], .nils]))) (.all fun hs_1 => .ret
 (SV.tup [.agg [.int .i64 e, .int .i64 s, .dat (D.slc (D.hd (hs 0 0)) 1 (D.rows d)), .int .i64 st, .int .i64 ap], .nils]))))))) z1)))) := by
 intros; kernel_rfl



end
end Go.Proofs.YtllmgnhjljmihaaGreat
end
section
open Go Go.Proofs Sx
namespace Go.Proofs.YtllmgnhjljmihaaGreat
set_option maxRecDepth 100000
set_option maxHeartbeats 0
noncomputable def lrA (e s st ap mv : Int) (x y : D) : Conf := Conf.mk (SFrm.mk 78 none none [Item.code (cAt Tryz.prog 78 [1, 1, 0, 1])] (mkJ 1 [(0, .ptr 0 0), (1, .int .i64 mv)] 0 42)) [SFrm.mk 42 (some (opsAt Tryz.prog 42 [1, 1, 1, 1, 0, 0, 1, 1, 1, 1], [])) (some 52) [Item.inBlock 0, Item.code (cAt Tryz.prog 42 [1, 1, 1, 1, 1])] (mkJ 0 [(4, .ptr 1 0), (6, .ptr 0 0)] 0 89)] [(0, OBlk.cells 114 [.int .i64 e, .int .i64 s, .dat y, .int .i64 st, .int .i64 ap, .nils]), (1, OBlk.cells 26 [.int .i64 0, .int .i64 0, .nils, .int .i64 0, .int .i64 0]), (2, OBlk.pub x)]
section
variable (e s st ap mv : Int) (x y : D)
theorem lrA_go : exec Tryz.prog ctO 300 (lrA e s st ap mv x y) =
 Tree.all fun hs =>
 .ret
 (SV.tup
 [.agg
 [.int .i64 e, .int .i64 s, .dat y, .int .i64 (if mv > st then mv else st),
 .int .i64 mv],
 .nils]) := by kernel_rfl

end
end Go.Proofs.YtllmgnhjljmihaaGreat
end
section
open Go
namespace Sx
theorem okRight_iff66 {e s a : Int} : okRight e s a = true ↔ (0 ≤ e ∧ e ≤ 1073741824) ∧ (0 ≤ s ∧ s < 4) ∧ 0 ≤ a ∧ a ≤ 1073741824 := by
  simp [okRight, okTime, okSite]; omega
theorem cs_len {x : Src} (h : checkSource x = 0) : x.offered.length ≤ 1024 := by
  unfold checkSource at h
  split at h
  · cases h
  · split at h
    · cases h
    · omega

theorem msg_row {a b c d e f : Int} {m : Msg} (hm : m = ⟨a, b, c, d, e, f, [], []⟩) :
    SRows Msg [[.int .i64 a, .int .i64 b, .int .i64 c, .int .i64 d, .int .i64 e, .int .i64 f, .slc none 0 [], .slc none 0 []]] [m] := by
  subst hm
  exact rows_one (ok_msg ..) rfl

theorem lastOf_get {a : Int} {l : List Int} (h : 0 < l.length) : lastOf a l = l[l.length - 1] := by
  unfold lastOf
  rw [List.getLastD_eq_getLast?, List.getLast?_eq_getElem?, List.getElem?_eq_getElem (by omega)]
  rfl

theorem cs_e {e s st ap : Int} {xs : List Int} (h : checkSource ⟨e, s, xs, st, ap⟩ = 0) : 0 ≤ e ∧ asc32 ap xs = true := by
  unfold checkSource at h
  split at h
  · cases h
  · rename_i hr
    split at h
    · cases h
    · split at h
      · cases h
      · rename_i ha
        rw [Bool.not_eq_false, okRight_iff66] at hr
        exact ⟨hr.1.1, by simpa using ha⟩

theorem asc_gt : ∀ {xs : List Int} {l : Int}, asc32 l xs = true → ∀ x, x ∈ xs → l < x
  | [], _, _, x, hx => by cases hx
  | y :: r, l, h, x, hx => by
    simp only [asc32, Bool.and_eq_true, decide_eq_true_eq] at h
    rcases List.mem_cons.1 hx with rfl | hx
    · exact h.1.1
    · have := asc_gt h.2 x hx; omega

theorem asc_filter : ∀ {xs : List Int} {l v : Int} {i : Nat}, asc32 l xs = true → xs[i]? = some v → xs.filter (fun x => decide (x > v)) = xs.drop (i + 1)
  | [], _, _, _, _, h => by simp at h
  | y :: r, l, v, 0, h, hi => by
    simp only [asc32, Bool.and_eq_true, decide_eq_true_eq] at h
    simp at hi
    subst hi
    simp only [List.filter_cons, Int.lt_irrefl, gt_iff_lt, decide_false, Bool.false_eq_true, if_false, List.drop_succ_cons, List.drop_zero]
    rw [List.filter_eq_self]
    intro x hx
    simpa using asc_gt h.2 x hx
  | y :: r, l, v, i + 1, h, hi => by
    simp only [asc32, Bool.and_eq_true, decide_eq_true_eq] at h
    simp only [List.getElem?_cons_succ] at hi
    have hlt := asc_gt h.2 v (List.mem_of_getElem? hi)
    simp only [List.filter_cons, List.drop_succ_cons]
    rw [if_neg (by simp; omega)]
    exact asc_filter h.2 hi

theorem idxF_spec {xs : List Int} {v : Int} : (idxF xs v = -1 ∧ v ∉ xs) ∨ ∃ i : Nat, idxF xs v = i ∧ xs[i]? = some v := by
  unfold idxF
  cases h : xs.findIdx? (fun x => v == x) with
  | none =>
    left
    rw [List.findIdx?_eq_none_iff] at h
    refine ⟨rfl, fun hv => ?_⟩
    have := h v hv
    simp at this
  | some i =>
    right
    rw [List.findIdx?_eq_some_iff_getElem] at h
    obtain ⟨hi, h1, _⟩ := h
    simp at h1
    exact ⟨i, rfl, by rw [List.getElem?_eq_getElem hi, ← h1]⟩
theorem learn_eq {e s st ap mk mf mt mn mv me : Int} {xs vs : List Int} {bs : List Byte} (h1 : checkSource ⟨e, s, xs, st, ap⟩ = 0) (h2 : mf = s) (h3 : ¬ me < e) (h4 : ¬ me > 1073741824) :
    learn ⟨e, s, xs, st, ap⟩ ⟨mk, mf, mt, mn, mv, me, vs, bs⟩ = if mk ≠ 9 ∧ mk ≠ 11 ∧ mk ≠ 12 then (⟨e, s, xs, st, ap⟩, [])
      else if me > e then (⟨me, s, [], ap, ap⟩, [])
      else if mk = 9 then (if mv ∈ xs ∧ mv ≥ st then (⟨e, s, xs, mv, ap⟩, [⟨10, 0, s, mv, 0, e, [], []⟩]) else (⟨e, s, xs, st, ap⟩, []))
      else if mk = 11 then (if mv ∈ xs then (⟨e, s, xs.filter fun x => decide (x > mv), max st mv, mv⟩, []) else (⟨e, s, xs, st, ap⟩, []))
      else (⟨e, s, xs, st, ap⟩, []) := by
  subst h2
  simp only [learn, h1, ne_eq, not_true_eq_false, h3, h4, or_self, if_false, toTarget]


theorem srcL_se {e s st ap : Int} {O : SV} {os : List Int} {r : Src} (ho : Stands Int O os) (hr : r = ⟨e, s, os, st, ap⟩) : ∃ d : D, SE (.agg [.int .i64 e, .int .i64 s, O, .int .i64 st, .int .i64 ap]) (srcSV d r) := by
  subst hr
  obtain ⟨d, h⟩ := ho.se
  exact ⟨d, se_agg (.cons (se_int rfl) (.cons (se_int rfl) (.cons h (.cons (se_int rfl) (.cons (se_int rfl) .nil)))))⟩
section
variable {P : Program} {w : World} {H : HV}
theorem rt_src3 {e s st ap k : Int} {O X : SV} {os : List Int} {ms : List Msg} {r : Src × List Msg × Int} (ho : Stands Int O os) (hx : Stands Msg X ms) (hr : r = (⟨e, s, os, st, ap⟩, ms, k)) :
    (Tree.ret (.tup [.agg [.int .i64 e, .int .i64 s, O, .int .i64 st, .int .i64 ap], X, .int .i64 k])).holds P ⟨w, H⟩ (RetD w H fun ds => .tup [srcSV (ds 0) r.1, .dat ((ds 1).like r.2.1), .int .i64 r.2.2]) := by
  subst hr
  obtain ⟨d, h⟩ := srcL_se (e := e) (s := s) (st := st) (ap := ap) ho rfl
  obtain ⟨d', h'⟩ := hx.se
  exact ret_se (fun i => match i with | 0 => d | _ => d') (se_tup (.cons h (.cons h' (.cons (se_int rfl) .nil))))
theorem rt_src2 {e s st ap : Int} {O X : SV} {os : List Int} {ms : List Msg} {r : Src × List Msg} (ho : Stands Int O os) (hx : Stands Msg X ms) (hr : r = (⟨e, s, os, st, ap⟩, ms)) :
    (Tree.ret (.tup [.agg [.int .i64 e, .int .i64 s, O, .int .i64 st, .int .i64 ap], X])).holds P ⟨w, H⟩ (RetD w H fun ds => .tup [srcSV (ds 0) r.1, .dat ((ds 1).like r.2)]) := by
  subst hr
  obtain ⟨d, h⟩ := srcL_se (e := e) (s := s) (st := st) (ap := ap) ho rfl
  obtain ⟨d', h'⟩ := hx.se
  exact ret_se (fun i => match i with | 0 => d | _ => d') (se_tup (.cons h (.cons h' .nil)))
end
theorem offer_e {s : Src} {c : Int} (h : checkSource s ≠ 0) : offer s c = (⟨0, 0, [], 0, 0⟩, [], checkSource s) := by unfold offer; rw [if_pos h]; rfl
theorem offer_c {e s st ap n last : Int} {xs : List Int} (h : checkSource ⟨e, s, xs, st, ap⟩ = 0) (hl : lastOf ap xs = last) :
    offer ⟨e, s, xs, st, ap⟩ n = if n ≤ last then (⟨0, 0, [], 0, 0⟩, [], 8) else if n > 1073741824 then (⟨0, 0, [], 0, 0⟩, [], 2) else if xs.length ≥ 1024 then (⟨0, 0, [], 0, 0⟩, [], 6) else (⟨e, s, xs ++ [n], st, ap⟩, [⟨8, 0, s, n, 0, e, [], []⟩], 0) := by
  unfold offer
  rw [if_neg (by simp [h])]
  simp only [hl]
  rfl
end Sx
end
section
open Go Go.Proofs Sx
namespace Go.Proofs.YtllmgnhjljmihaaGreat
set_option maxRecDepth 100000
theorem ctOOk : Ctrs.Ok Tryz.prog ctO := by
  intro x hx
  simp only [ctO, List.mem_cons, List.not_mem_nil, or_false] at hx
  rcases hx with rfl | rfl | rfl | rfl
  · exact ctrOf_ok lawCS1
  · exact ctrOf_ok lawHas42
  · exact ctrOf_ok lawIdx32
  · exact oCtr_ok lawCl1
theorem lawOfr : Law Tryz.prog 29 ((rdSrc.two rdInt).sp spOffer) := by
  refine law_in _ (by kernel_rfl) fun H w ⟨⟨e, s, d, st, ap⟩, n⟩ hok hp => ?_
  have hd : d.Is Int := hp _ (List.mem_singleton.2 rfl)
  clear hp hok
  have hl := D.Is.length (α := Int) d
  have rd : SRows Int d.rows (d.to Int) := rows_of hd
  apply exec_sound ctOOk 400
  rw [show (rdSrc.two rdInt).canon (⟨e, s, d, st, ap⟩, n) = [.agg [.int .i64 e, .int .i64 s, .dat d, .int .i64 st, .int .i64 ap], .int .i64 n] from rfl, ofr_in]
  show Tree.holds _ _ (RetD w H fun ds => .tup [srcSV (ds 0) (offer ⟨e, s, d.to Int, st, ap⟩ n).1, .dat ((ds 1).like (offer ⟨e, s, d.to Int, st, ap⟩ n).2.1), .int .i64 (offer ⟨e, s, d.to Int, st, ap⟩ n).2.2]) _
  refine ⟨hd, fun h1 => rt_src3 stands_nils stands_nils (offer_e (show checkSource (SrcD.src ⟨e, s, d, st, ap⟩) ≠ 0 by simpa using h1)), fun h1 => ?_⟩
  have h1 : checkSource ⟨e, s, d.to Int, st, ap⟩ = 0 := show checkSource (SrcD.src ⟨e, s, d, st, ap⟩) = 0 by simpa using h1
  have h8 : (d.to Int).length ≤ 1024 := cs_len h1
  have hcast : 0 < d.len → IntKind.i64.wrap ((d.len : Int) - 1) = ((d.len - 1 : Nat) : Int) := fun h => by rw [wrap64 (by omega) (by omega)]; omega
  have n5 : d.Is Int ∧ d.len ≤ 1048576 := ⟨hd, by omega⟩
  refine ⟨fun h2 => ?_, fun h2 => ?_⟩
  · have h2 : 0 < d.len := by have := of_decide_eq_true h2; omega
    rw [hcast h2]
    have hlt : d.len - 1 < (d.to Int).length := by omega
    obtain ⟨c1, c2, c3⟩ := int_at hd hlt
    rw [c3]
    have hx : lastOf ap (d.to Int) = (d.to Int)[d.len - 1] := by
      rw [lastOf_get (a := ap) (l := d.to Int) (by omega)]
      congr 1; omega
    have ho := offer_c (n := n) h1 hx
    refine ⟨c1, c2, fun h3 => rt_src3 stands_nils stands_nils ?_, fun h3 => ⟨fun h4 => rt_src3 stands_nils stands_nils ?_, fun h4 => ⟨fun h5 => rt_src3 stands_nils stands_nils ?_, fun h5 => ⟨n5, fun hs hs1 => ⟨⟨rfl, .inr rfl, ?_, ?_⟩, fun hs2 hs3 => ⟨⟨.inr rfl, by simp only [len_slc, List.length_cons, List.length_nil]; omega, by simp only [len_slc, List.length_cons, List.length_nil]; omega⟩, fun hs4 => rt_src3 (stands_rows rfl (rows_app rd (rows_one (ok_int n) rfl))) (stands_rows rfl (msg_row rfl)) ?_⟩⟩⟩⟩⟩⟩
    · rw [ho, if_pos (of_decide_eq_true h3)]
    all_goals try rw [ho, if_neg (of_decide_eq_false h3)]
    · rw [if_pos (of_decide_eq_true h4)]
    all_goals try rw [if_neg (of_decide_eq_false h4)]
    · rw [if_pos (by have := of_decide_eq_true h5; omega)]
    all_goals try rw [if_neg (by have := of_decide_eq_false h5; omega)]
    · have : d.rows.length = (d.to Int).length := hl
      simp only [len_slc, List.length_cons, List.length_nil]; omega
    · have : d.rows.length = (d.to Int).length := hl
      simp only [len_slc, List.length_cons, List.length_nil]; omega
    · rfl
  · have h2 : d.len = 0 := by have := of_decide_eq_false h2; omega
    have h0 : d.to Int = [] := List.eq_nil_of_length_eq_zero (by omega)
    have ho := offer_c (n := n) h1 (last := ap) (by rw [h0]; rfl)
    refine ⟨fun h3 => rt_src3 stands_nils stands_nils ?_, fun h3 => ⟨fun h4 => rt_src3 stands_nils stands_nils ?_, fun h4 => ⟨fun h5 => rt_src3 stands_nils stands_nils ?_, fun h5 => ⟨n5, fun hs hs1 => ⟨⟨rfl, .inr rfl, ?_, ?_⟩, fun hs2 hs3 => ⟨⟨.inr rfl, by simp only [len_slc, List.length_cons, List.length_nil]; omega, by simp only [len_slc, List.length_cons, List.length_nil]; omega⟩, fun hs4 => rt_src3 (stands_rows rfl (rows_app rd (rows_one (ok_int n) rfl))) (stands_rows rfl (msg_row rfl)) ?_⟩⟩⟩⟩⟩⟩
    · rw [ho, if_pos (of_decide_eq_true h3)]
    all_goals try rw [ho, if_neg (of_decide_eq_false h3)]
    · rw [if_pos (of_decide_eq_true h4)]
    all_goals try rw [if_neg (of_decide_eq_false h4)]
    · rw [if_pos (by have := of_decide_eq_true h5; omega)]
    all_goals try rw [if_neg (by have := of_decide_eq_false h5; omega)]
    · have : d.rows.length = (d.to Int).length := hl
      simp only [len_slc, List.length_cons, List.length_nil]; omega
    · have : d.rows.length = (d.to Int).length := hl
      simp only [len_slc, List.length_cons, List.length_nil]; omega
    · rfl
theorem lawLrn : Law Tryz.prog 42 ((rdSrc.two rdMsg).sp spLearn) := by
  refine law_in _ (by kernel_rfl) fun H w ⟨⟨e, s, d, st, ap⟩, ⟨mk, mf, mt, mn, mv, me, mb, ml⟩⟩ hok hp => ?_
  have hd : d.Is Int := hp _ (List.mem_singleton.2 rfl)
  clear hp hok
  have hl := D.Is.length (α := Int) d
  apply goS_sound ctOOk (fun _ => false) [(78, 26)] 600
  rw [show (rdSrc.two rdMsg).canon (⟨e, s, d, st, ap⟩, ⟨mk, mf, mt, mn, mv, me, mb, ml⟩) = [.agg [.int .i64 e, .int .i64 s, .dat d, .int .i64 st, .int .i64 ap], .agg [.int .i64 mk, .int .i64 mf, .int .i64 mt, .int .i64 mn, .int .i64 mv, .int .i64 me, .dat mb, .dat ml]] from rfl, lrn_in]
  show Tree.holds _ _ (RetD w H fun ds => .tup [srcSV (ds 0) (learn ⟨e, s, d.to Int, st, ap⟩ ⟨mk, mf, mt, mn, mv, me, mb.to Int, ml.to Byte⟩).1, .dat ((ds 1).like (learn ⟨e, s, d.to Int, st, ap⟩ ⟨mk, mf, mt, mn, mv, me, mb.to Int, ml.to Byte⟩).2)]) _
  have bad : (checkSource ⟨e, s, d.to Int, st, ap⟩ ≠ 0 ∨ mf ≠ s ∨ me < e ∨ me > 1073741824) → learn ⟨e, s, d.to Int, st, ap⟩ ⟨mk, mf, mt, mn, mv, me, mb.to Int, ml.to Byte⟩ = (⟨e, s, d.to Int, st, ap⟩, []) := fun h => by
    unfold learn; rw [if_pos h]
  refine ⟨hd, fun h1 => rt_src2 (stands_self hd) stands_nils (bad (.inl (show checkSource (SrcD.src ⟨e, s, d, st, ap⟩) ≠ 0 by simpa using h1))), fun h1 => ⟨fun h2 => rt_src2 (stands_self hd) stands_nils (bad (.inr (.inl (by simpa using h2)))), fun h2 => ⟨fun h3 => rt_src2 (stands_self hd) stands_nils (bad (.inr (.inr (.inl (of_decide_eq_true h3))))), fun h3 => ⟨fun h4 => ⟨fun h5 => rt_src2 (stands_self hd) stands_nils (bad (.inr (.inr (.inr (by simp at h5; omega))))), fun h5 => ?_⟩, fun h4 => ?_⟩⟩⟩⟩
  · have h1 : checkSource ⟨e, s, d.to Int, st, ap⟩ = 0 := show checkSource (SrcD.src ⟨e, s, d, st, ap⟩) = 0 by simpa using h1
    have h2 : mf = s := by simpa using h2
    have h3 : ¬me < e := of_decide_eq_false h3
    have h5 : ¬me > 1073741824 := by simp at h5; omega
    have h8 : (d.to Int).length ≤ 1024 := cs_len h1
    obtain ⟨_, hasc⟩ := cs_e h1
    rw [learn_eq h1 h2 h3 h5]
    refine holds_need.2 ⟨⟨hd, by omega⟩, holds_all.2 fun hs => ?_⟩
    obtain ⟨x1, x2⟩ := slc_same hd (D.hd (hs 0 0)) (s := 1) rfl
    generalize hxx : D.slc (D.hd (hs 0 0)) 1 (D.rows d) = x at x1 x2 ⊢
    have xl := D.Is.length (α := Int) x
    rw [x2] at xl
    have n1 : x.Is Int ∧ x.len ≤ 1048576 := ⟨x1, by omega⟩
    rw [x2]
    refine ⟨fun k9 => ⟨fun h6 _ _ => rt_src2 stands_nils stands_nils ?_, fun h6 => ⟨n1, fun c1 => ⟨fun c2 hs1 => ⟨⟨.inr rfl, by simp only [len_slc, List.length_cons, List.length_nil]; omega, by simp only [len_slc, List.length_cons, List.length_nil]; omega⟩, fun _ => rt_src2 (stands_dat x1 x2) (stands_rows rfl (msg_row rfl)) ?_⟩, fun c2 _ => rt_src2 (stands_dat x1 x2) stands_nils ?_⟩, fun c1 _ => rt_src2 (stands_dat x1 x2) stands_nils ?_⟩⟩,
      fun k9 => ⟨fun k11 => ⟨fun h6 _ _ => rt_src2 stands_nils stands_nils ?_, fun h6 => ⟨n1, fun c1 => ?_, fun c1 _ => rt_src2 (stands_dat x1 x2) stands_nils ?_⟩⟩, fun k11 => ⟨fun k12 => ⟨fun h6 _ _ => rt_src2 stands_nils stands_nils ?_, fun h6 _ => rt_src2 (stands_dat x1 x2) stands_nils ?_⟩, fun k12 _ => rt_src2 (stands_dat x1 x2) stands_nils ?_⟩⟩⟩
    · rw [if_neg (by simp at k9; omega), if_pos (of_decide_eq_true h6)]
    · have c1 : mv ∈ d.to Int := by simpa using c1
      rw [if_neg (by simp at k9; omega), if_neg (of_decide_eq_false h6), if_pos (of_decide_eq_true k9), if_pos ⟨c1, of_decide_eq_true c2⟩]
    · rw [if_neg (by simp at k9; omega), if_neg (of_decide_eq_false h6), if_pos (of_decide_eq_true k9), if_neg (fun h => of_decide_eq_false c2 h.2)]
    · have c1 : ¬mv ∈ d.to Int := by simpa using c1
      rw [if_neg (by simp at k9; omega), if_neg (of_decide_eq_false h6), if_pos (of_decide_eq_true k9), if_neg (fun h => c1 h.1)]
    · rw [if_neg (by simp at k11; omega), if_pos (of_decide_eq_true h6)]
    · have k9 := of_decide_eq_false k9
      have k11 := of_decide_eq_true k11
      rw [if_neg (by omega), if_neg (of_decide_eq_false h6), if_neg k9, if_pos k11]
      rcases idxF_spec (xs := d.to Int) (v := mv) with ⟨hi, _⟩ | ⟨i, hi, hix⟩
      · rw [hi] at c1; exact absurd (of_decide_eq_true c1) (by omega)
      · have hlt := (List.getElem?_eq_some_iff.1 hix).1
        have hmem : mv ∈ d.to Int := List.mem_of_getElem? hix
        rw [hi, wrap_succ hlt (by omega), if_pos hmem, Int.toNat_natCast]
        refine ⟨⟨by omega, by omega, x1.fits⟩, ?_⟩
        refine viewOut_to 2 0 2 (x.sz = 1 ∧ (i + 1) + (x.len - (i + 1)) ≤ x.len) (lrA e s st ap mv x (x.sub (i + 1) (i + 1 + (x.len - (i + 1))))) (by kernel_rfl) ⟨by rw [← hxx]; rfl, by omega⟩ ?_
        apply exec_sound ctOOk 300
        rw [lrA_go]
        obtain ⟨y1, y2⟩ := x1.sub (i + 1) (i + 1 + (x.len - (i + 1)))
        refine fun _ => rt_src2 (stands_dat y1 y2) stands_nils ?_
        rw [x2, asc_filter hasc hix, Nat.add_sub_cancel_left, List.take_of_length_le (by rw [List.length_drop]; omega)]
        congr 2
        rw [Int.max_def]
        split <;> split <;> omega
    · have k9 := of_decide_eq_false k9
      have k11 := of_decide_eq_true k11
      rw [if_neg (by omega), if_neg (of_decide_eq_false h6), if_neg k9, if_pos k11]
      rcases idxF_spec (xs := d.to Int) (v := mv) with ⟨hi, hm⟩ | ⟨i, hi, hix⟩
      · rw [if_neg hm]
      · rw [hi] at c1; exact absurd (of_decide_eq_false c1) (by omega)
    · rw [if_neg (by simp at k12; omega), if_pos (of_decide_eq_true h6)]
    · have k9 := of_decide_eq_false k9
      have k11 := of_decide_eq_false k11
      rw [if_neg (by simp at k12; omega), if_neg (of_decide_eq_false h6), if_neg k9, if_neg k11]
    · have k9 := of_decide_eq_false k9
      have k11 := of_decide_eq_false k11
      have k12 := of_decide_eq_false k12
      rw [if_pos ⟨k9, k11, k12⟩]
  · have h1 : checkSource ⟨e, s, d.to Int, st, ap⟩ = 0 := show checkSource (SrcD.src ⟨e, s, d, st, ap⟩) = 0 by simpa using h1
    obtain ⟨h0, _⟩ := cs_e h1
    have := of_decide_eq_false h3
    have := of_decide_eq_false h4
    omega
end Go.Proofs.YtllmgnhjljmihaaGreat
end
section
open Go Go.Proofs Sx
namespace Go.Proofs.YtllmgnhjljmihaaGreat
set_option maxRecDepth 100000
set_option maxHeartbeats 0
noncomputable def ctBg : Ctrs := [(62, oCtr (spClone Int 3)), (30, ctrOf (rdCy.one.sp spCpC))]
noncomputable def ctBgR : Ctrs := [(37, ctrOf (rdCy.one.sp spCpC))]
noncomputable def ctNx : Ctrs := [(24, ctrOf (rdRl.one.sp spCkRl)), (30, ctrOf (rdCy.one.sp spCpC))]
noncomputable def ctNxR : Ctrs := [(31, ctrOf (rdRl.one.sp spCkRl)), (37, ctrOf (rdCy.one.sp spCpC))]
section
variable (d o k : D) (n a1 a2 a3 a4 b1 b2 b3 b4 e s st ap : Int)

theorem rbh_in : exec Tryz.prog ctBgR 400 (entry Tryz.prog 47 [.dat d, .int .i64 n]) =
 Tree.leaf
 (Conf.mk
 (SFrm.mk 47 none none
 [Item.inLoop (cAt Tryz.prog 47 [1, 1, 0, 1, 0, 0]), Item.inBlock 0, Item.code (cAt Tryz.prog 47 [1, 1, 1])]
 (mkJ 0 [(0, .dat d), (1, .int .i64 n), (5, .nils), (6, .int .i64 0)] 0 29))
 [] []) := by kernel_rfl


theorem nxt_in : goS Tryz.prog ctNx (fun _ => false) [(44, 8)] 400 (entry Tryz.prog 14 [.agg [.int .i64 a1, .int .i64 a2, .int .i64 a3, .int .i64 a4, .int .i64 b1, .int .i64 b2, .int .i64 b3, .int .i64 b4, .int .i64 e, .int .i64 s, .dat o, .int .i64 st, .int .i64 ap, .dat k]]) =
 Tree.need (RlD.Ok (RlD.mk (Tgt.mk a1 a2 a3 a4) (Tgt.mk b1 b2 b3 b4) (SrcD.mk e s o st ap) k))
 (.br (ckRl (RlD.rl (RlD.mk (Tgt.mk a1 a2 a3 a4) (Tgt.mk b1 b2 b3 b4) (SrcD.mk e s o st ap) k)) != 0)
 (.ret
 (SV.tup
 [.agg [.int .i64 0, .int .i64 0, .int .i64 0, .nils, .nils], .lb false]))
 (.leaf
 (Conf.mk
 (SFrm.mk 44 none none
 [Item.code (cAt Tryz.prog 44 [1, 1, 0, 0]), Item.code (cAt Tryz.prog 44 [1, 1, 0, 1]),
 Item.code (cAt Tryz.prog 44 [1, 1, 1])]
 (mkJ 1 [(0, .ptr 0 0), (1, .int .i64 st), (5, .nils)] 0 29))
 [SFrm.mk 14 (some (opsAt Tryz.prog 14 [1, 1, 0], [7])) (some 15) [Item.code (cAt Tryz.prog 14 [1, 1, 1])]
 (mkJ 0 [(2, .ptr 1 0)] 0 23)]
 [(0,
 OBlk.cells 68
 [.int .i64 a1, .int .i64 a2, .int .i64 a3, .int .i64 a4,
 .int .i64 b1, .int .i64 b2, .int .i64 b3, .int .i64 b4,
 .int .i64 e, .int .i64 s, .dat o, .int .i64 st, .int .i64 ap,
 .dat k]),
 (1, OBlk.cells 32 [.int .i64 0, .int .i64 0, .int .i64 0, .nils, .nils])]))) := by kernel_rfl


end
end Go.Proofs.YtllmgnhjljmihaaGreat
end
section
namespace Sx
open Go RowKit

mutual
theorem SV.ren_id : ∀ x : SV, x.ren id = x
  | .vec _ => rfl
  | .ptr .. => rfl
  | .velt .. => rfl
  | .view .. => rfl
  | .mapp _ => rfl
  | .agg l => by simp only [SV.ren, SV.renL_id l]
  | .tup l => by simp only [SV.ren, SV.renL_id l]
  | .fn f a c => by simp only [SV.ren, SV.renL_id a, SV.renL_id c]
  | .int .. => rfl
  | .bool _ => rfl
  | .lb _ => rfl
  | .str _ => rfl
  | .nils => rfl
  | .dat _ => rfl
  | .elt .. => rfl
  | .nilp => rfl
  | .nilf => rfl
  | .undef => rfl
  | .junk _ => rfl
  | .raw _ => rfl
theorem SV.renL_id : ∀ l : List SV, SV.renL id l = l
  | [] => rfl
  | x :: r => by simp only [SV.renL, SV.ren_id x, SV.renL_id r]
end
theorem OBlk.ren_id : ∀ o : OBlk, o.ren id = o
  | .cells t cs => by simp only [OBlk.ren, SV.renL_id]
  | .arr .. => rfl
  | .pub _ => rfl
  | .map es => by
    simp only [OBlk.ren, SV.ren_id]
    congr 1
    conv => rhs; rw [← List.map_id es]
    rfl

theorem named_key {m : Mem} {k : Nat} {o : OBlk} (h : (k, o) ∈ m) : k ∈ m.named := List.mem_flatMap.2 ⟨_, h, List.mem_cons_self⟩
theorem named_in {m : Mem} {k j : Nat} {o : OBlk} (h : (k, o) ∈ m) (hj : j ∈ o.keys) : j ∈ m.named := List.mem_flatMap.2 ⟨_, h, List.mem_cons_of_mem _ hj⟩

theorem Good.envTo {C : Ctx} {m : Mem} {E E' : Env} {H : HV} {w : World} (g : Good C m E H w) (hj : E'.j = E.j) (h : ∀ k, k ∈ m.named → E'.b k = E.b k ∧ E'.v k = E.v k) (hp : ∀ f, C.x.pn = some f → ∀ k, PIN ≤ k → E'.b k = E.b k) : Good C m E' H w := by
  refine ⟨g.below, g.ext, g.fresh, g.cell, fun k o hko => ?_, g.keys, fun x y hx hy hne hlx hly => ?_, ⟨g.fix.fx, g.fix.mark, g.fix.nodup, fun f hf k hk => (hp f hf k hk).trans (g.fix.pin f hf k hk)⟩⟩
  · have := OOk.ren (ρ := id) hj (g.own k o hko) (h k (named_key hko)) (fun j hj => h j (named_in hko hj)) (fun es _ hk => keysOk_ren hk)
    rw [OBlk.ren_id] at this
    exact this
  · rw [(h x.1 (named_key (o := x.2) hx)).1, (h y.1 (named_key (o := y.2) hy)).1]
    exact g.apart x y hx hy hne hlx hly
theorem denL_envTo {E E' : Env} (hj : E'.j = E.j) {l : List SV} (h : ∀ k, k ∈ SV.keysL l → E'.b k = E.b k ∧ E'.v k = E.v k) : SV.denL E' l = SV.denL E l := by
  have := SV.denL_ren (ρ := id) hj l h
  rwa [SV.renL_id] at this
def shM (m : Mem) : Mem := m.map fun e => (e.1 + 500, e.2.ren (· + 500))
def RetM (w : World) (H : HV) (Φ : SV → Mem → Prop) : Value → World → Prop :=
  fun u w' => ∃ v m E1 H', Φ v m ∧ u = v.den E1 ∧ Good ⟨w, H⟩ m E1 H' w' ∧ v.Ok H' ∧ v.jk 0 = false ∧ (∀ x, x ∈ m → x.2.jk 0 = false)

theorem OOk.ctx {C C' : Ctx} {E : Env} {H : HV} {w : World} {k : Nat} {o : OBlk} (h : OOk C E H w k o) (hs : C'.w0.heap.size ≤ C.w0.heap.size) : OOk C' E H w k o := by
  cases o with
  | cells t cs => exact ⟨Nat.le_trans hs h.1, h.2⟩
  | pub d => exact h
  | map es => exact ⟨Nat.le_trans hs h.1, h.2⟩
  | arr e d =>
    obtain ⟨hd, sz, rows, h1, h2, h3, h4⟩ := h
    exact ⟨hd, sz, rows, h1, h2, ownsRow_mono h3 hs, h4⟩

theorem OBlk.lies_ren (ρ : Nat → Nat) (o : OBlk) : (o.ren ρ).Lies ↔ o.Lies := by cases o <;> rfl

section
variable {P : Program} {C : Ctx} {R : Value → World → Prop}

theorem runs_frame {top g : SFrm} {rest : List SFrm} {mem : Mem} {Φ : SV → Mem → Prop}
    (hpure : ∀ k, k ∉ SV.keysL top.tmps) (hlow : ∀ k, k ∈ SV.keysL g.tmps ++ ((rest.flatMap fun f => SV.keysL f.tmps) ++ mem.named) → k < 500)
    (h1 : ∀ (H : HV) (w : World), SV.OkL H top.tmps → Runs P ⟨w, H⟩ ⟨top, [], []⟩ (RetM w H Φ))
    (h2 : ∀ v m, Φ v m → Runs P C ⟨{ g with tmps := putS g.tmps g.await (v.ren (· + 500)), await := none }, rest, shM m ++ mem⟩ R) (hpn : C.x.pn = none := by rfl) :
    Runs P C ⟨top, g :: rest, mem⟩ R := by
  intro E H w gd ok
  have hcell := gd.cell
  have hr := h1 H w ok.1 E H w (good_start hcell E) ⟨ok.1, by simp⟩
  rw [stkRun_eq] at hr ⊢
  simp only [List.map_nil, restOf] at hr
  simp only [List.map_cons, restOf]
  refine CFrm.run_mono hr fun u w' ⟨v, m, E1, H', hΦ, hu, g1, hv, hvj, hmj⟩ => ?_
  -- where all lies afterwards
  let E2 : Env := ⟨fun k => if 500 ≤ k then E1.b (k - 500) else E.b k, fun k => if 500 ≤ k then E1.v (k - 500) else E.v k, E.j⟩
  let E1' : Env := ⟨E1.b, E1.v, E.j⟩
  have hs1 : Same 0 E1 E1' := ⟨rfl, rfl, fun i hi => absurd hi (Nat.not_lt_zero _)⟩
  have g1' : Good ⟨w, H⟩ m E1' H' w' := g1.same' hs1 hmj
  have hu' : u = v.den E1' := by rw [hu]; exact (den_same hs1 v hvj).symm
  have hren : ∀ k, Ren (· + 500) E1' E2 k := fun k => by
    refine ⟨?_, ?_⟩ <;> simp [E2, E1']
  have hold : ∀ k, k < 500 → E2.b k = E.b k ∧ E2.v k = E.v k := fun k hk => by
    refine ⟨?_, ?_⟩ <;> simp [E2] <;> omega
  have hden : v.den E1' = (v.ren (· + 500)).den E2 := (SV.den_ren (ρ := (· + 500)) (E := E1') (E' := E2) rfl v (fun k _ => hren k)).symm
  have hmemlow : ∀ k, k ∈ mem.named → k < 500 := fun k hk => hlow k (List.mem_append_right _ (List.mem_append_right _ hk))
  have gm : Good C mem E H' w' := gd.call g1.below g1.ext g1.fresh g1.cell
  have gm2 : Good C mem E2 H' w' := gm.envTo rfl (fun k hk => hold k (hmemlow k hk)) fun f hf => by rw [hpn] at hf; cases hf
  have hlowm : ∀ k o, (k, o) ∈ m → w.heap.size ≤ E1.b k ∨ ¬o.Lies := fun k o hko => by
    by_cases hl : o.Lies
    · exact .inl ((g1.own k o hko).low hl)
    · exact .inr hl
  have good2 : Good C (shM m ++ mem) E2 H' w' := by
    refine ⟨gm.below, gm.ext, gm.fresh, gm.cell, fun k o hko => ?_, ?_, fun x y hx hy hne hlx hly => ?_, gm2.fix⟩
    · rcases List.mem_append.1 hko with h | h
      · obtain ⟨⟨k', o'⟩, hm, he⟩ := List.mem_map.1 h
        cases he
        exact (OOk.ren (ρ := (· + 500)) (E := E1') (E' := E2) rfl (g1'.own k' o' hm) (hren k') (fun j _ => hren j) (fun es _ hk => keysOk_ren hk)).ctx gd.below.size
      · exact gm2.own k o h
    · rw [List.pairwise_append]
      refine ⟨?_, gm.keys, fun x hx y hy => ?_⟩
      · rw [shM, List.pairwise_map]
        exact g1.keys.imp fun h => by simpa using h
      · obtain ⟨x', hx', rfl⟩ := List.mem_map.1 hx
        have := hmemlow y.1 (named_key (o := y.2) hy)
        simp only; omega
    · have newb : ∀ z : Nat × OBlk, z ∈ shM m → z.2.Lies → w.heap.size ≤ E2.b z.1 ∧ ∃ z', z' ∈ m ∧ z.1 = z'.1 + 500 ∧ z'.2.Lies ∧ E2.b z.1 = E1.b z'.1 := fun z hz hl => by
        obtain ⟨z', hz', rfl⟩ := List.mem_map.1 hz
        have hl' := (OBlk.lies_ren _ _).1 hl
        have hb : E2.b (z'.1 + 500) = E1.b z'.1 := (hren z'.1).1
        exact ⟨by rw [hb]; exact (g1.own z'.1 z'.2 hz').low hl', z', hz', rfl, hl', hb⟩
      have oldb : ∀ z : Nat × OBlk, z ∈ mem → z.2.Lies → E2.b z.1 < w.heap.size := fun z hz hl => by
        rw [(hold z.1 (hmemlow z.1 (named_key (o := z.2) hz))).1]
        exact (gd.own z.1 z.2 hz).lt hl
      rcases List.mem_append.1 hx with hx | hx <;> rcases List.mem_append.1 hy with hy | hy
      · obtain ⟨_, x', hx', ex, lx, bx⟩ := newb x hx hlx
        obtain ⟨_, y', hy', ey, ly, by'⟩ := newb y hy hly
        rw [bx, by']
        exact g1.apart x' y' hx' hy' (fun h => hne (by rw [ex, ey, h])) lx ly
      · have := (newb x hx hlx).1; have := oldb y hy hly; omega
      · have := oldb x hx hlx; have := (newb y hy hly).1; omega
      · exact gm2.apart x y hx hy hne hlx hly
  have hgt : SV.denL E2 g.tmps = SV.denL E g.tmps := denL_envTo (E := E) (E' := E2) rfl fun k hk => hold k (hlow k (List.mem_append_left _ hk))
  have hrt : rest.map (SFrm.den E2) = rest.map (SFrm.den E) := by
    apply List.map_congr_left
    intro f hf
    simp only [SFrm.den]
    rw [denL_envTo (E := E) (E' := E2) rfl fun k hk => hold k (hlow k (List.mem_append_right _ (List.mem_append_left _ (List.mem_flatMap.2 ⟨f, hf, hk⟩))))]
  have okg : SV.OkL H' g.tmps := SV.OkL.mono g1.ext _ (ok.2 g List.mem_cons_self)
  have fin := h2 v m hΦ E2 H' w' good2 ⟨okL_putS okg (SV.ok_ren v hv), fun f hf => SV.OkL.mono g1.ext _ (ok.2 f (List.mem_cons_of_mem _ hf))⟩
  simp only [SFrm.den] at fin ⊢
  rw [← put_den, hgt, ← hden, ← hu'] at fin
  rw [hrt] at fin
  cases rest <;> exact fin
theorem retM {w : World} {H : HV} {Φ : SV → Mem → Prop} {fn : FuncId} {aw : Option Tmp} {k : List Item} {tmps : List SV} {mem : Mem} {f : Func} {l : List SV} (m' : Mem) (hfn : P.funcs[fn]? = some f) (hres : resS P mem tmps f.results.toList = some l)
    (hsub : m'.Sublist mem) (hj : (one? l).jk 0 = false) (hjm : m'.all (fun x => !x.2.jk 0) = true) (h : Φ (one? l) m') : (Tree.leaf ⟨⟨fn, none, aw, .code .ret :: k, tmps⟩, [], mem⟩).holds P ⟨w, H⟩ (RetM w H Φ) := by
  refine runs_ret hfn hres fun E H' w' g hv => ⟨_, m', E, H', h, rfl, g.sub hsub, hv, hj, fun x hx => ?_⟩
  have := List.all_eq_true.1 hjm x hx
  simpa using this
def atRet (c : Conf) : Bool :=
  match c.rest with
  | [] => match c.top.ri with
    | none => match c.top.todo with
      | .code .ret :: _ => true
      | _ => false
    | some _ => false
  | _ :: _ => false
noncomputable def execR (P : Program) (cs : Ctrs) (n : Nat) : Conf → Tree :=
  Nat.rec (motive := fun _ => Conf → Tree) (fun _ => .stuck) (fun _ ih c => match atRet c with
    | true => leafR c
    | false => stepC P cs (fun _ => false) ih c) n
theorem execR_sound {cs : Ctrs} (hcs : cs.Ok P) : ∀ (n : Nat) (c : Conf), (execR P cs n c).holds P C R → Runs P C c R
  | 0, _, h => h.elim
  | n + 1, c, h => by
    have e : execR P cs (n + 1) c = match atRet c with
      | true => leafR c
      | false => stepC P cs (fun _ => false) (execR P cs n) c := rfl
    rw [e] at h
    cases hr : atRet c with
    | true => rw [hr, leafR_eq] at h; exact h
    | false => rw [hr] at h; exact step_sound (U := fun _ => false) (ih := execR P cs n) hcs (fun c h => execR_sound hcs n c h) c h
end
end Sx
end
section
open Go Go.Proofs Sx
namespace Go.Proofs.YtllmgnhjljmihaaGreat
set_option maxRecDepth 100000
set_option maxHeartbeats 0
noncomputable def bhTop (n : Int) : SFrm := SFrm.mk 44 none none [Item.code (cAt Tryz.prog 44 [1, 1, 0, 0]), Item.code (cAt Tryz.prog 44 [1, 1, 0, 1]), Item.code (cAt Tryz.prog 44 [1, 1, 1])] (mkJ 1 [(0, .ptr 0 0), (1, .int .i64 n), (5, .nils)] 0 29)
noncomputable def bhLop (n : Int) (K : SV) (l j : Int) : SFrm := SFrm.mk 44 none none [Item.inLoop (cAt Tryz.prog 44 [1, 1, 0, 1, 0, 0]), Item.inBlock 0, Item.code (cAt Tryz.prog 44 [1, 1, 1])] (mkJ 1 [(1, .int .i64 n), (5, .vec 0), (12, K), (13, .int .i64 l), (14, .int .i64 j)] 0 29)
noncomputable def bgC (x : RlD) : SFrm := SFrm.mk 27 none none [Item.code (cAt Tryz.prog 27 [0]), Item.code (cAt Tryz.prog 27 [1])] (mkJ 1 [(0, .agg (rlCs x))] 0 23)
noncomputable def bgA (x : RlD) : Conf := Conf.mk (bhTop (Int.neg 9223372036854775808)) [SFrm.mk 27 (some (opsAt Tryz.prog 27 [1, 1, 0], [3, 4, 5, 6])) (some 9) [Item.code (cAt Tryz.prog 27 [1, 1, 1])] (mkJ 0 [(1, .ptr 1 0), (3, .ptr 0 0), (7, .ptr 0 0)] 0 23)]
 [(0, OBlk.cells 68 (rlCs x)), (1, OBlk.cells 29 (rlCs x))]
noncomputable def bgL (x : RlD) (n : Int) (q : D) (j : Int) : Conf := Conf.mk (bhLop n (.dat x.k) (x.k.len : Int) j) [SFrm.mk 27 (some (opsAt Tryz.prog 27 [1, 1, 0], [3, 4, 5, 6])) (some 9) [Item.code (cAt Tryz.prog 27 [1, 1, 1])] (mkJ 0 [(1, .ptr 1 0), (3, .ptr 2 0), (7, .ptr 2 0)] 0 23)]
 [(0, .arr 32 q), (1, OBlk.cells 29 (rlCs x)), (2, OBlk.cells 68 (rlCs x))]
section
variable (d o k q : D) (n j a1 a2 a3 a4 b1 b2 b3 b4 e s st ap : Int)
theorem bgC_in : goS Tryz.prog ctBg (fun _ => false) [(44, 8)] 400 (Conf.mk (bgC ⟨⟨a1, a2, a3, a4⟩, ⟨b1, b2, b3, b4⟩, ⟨e, s, o, st, ap⟩, k⟩) [] []) =
 Tree.leaf
 (Conf.mk
 (SFrm.mk 44 none none
 [Item.code (cAt Tryz.prog 44 [1, 1, 0, 0]), Item.code (cAt Tryz.prog 44 [1, 1, 0, 1]),
 Item.code (cAt Tryz.prog 44 [1, 1, 1])]
 (mkJ 1 [(0, .ptr 0 0), (1, .int .i64 (Int.neg 9223372036854775808)), (5, .nils)] 0 29))
 [SFrm.mk 27 (some (opsAt Tryz.prog 27 [1, 1, 0], [3, 4, 5, 6])) (some 9) [Item.code (cAt Tryz.prog 27 [1, 1, 1])]
 (mkJ 0 [(1, .ptr 1 0), (3, .ptr 0 0), (7, .ptr 0 0)] 0 23)]
 [(0,
 OBlk.cells 68
 [.int .i64 a1, .int .i64 a2, .int .i64 a3, .int .i64 a4,
 .int .i64 b1, .int .i64 b2, .int .i64 b3, .int .i64 b4,
 .int .i64 e, .int .i64 s, .dat o, .int .i64 st, .int .i64 ap,
 .dat k]),
 (1,
 OBlk.cells 29
 [.int .i64 a1, .int .i64 a2, .int .i64 a3, .int .i64 a4,
 .int .i64 b1, .int .i64 b2, .int .i64 b3, .int .i64 b4,
 .int .i64 e, .int .i64 s, .dat o, .int .i64 st, .int .i64 ap,
 .dat k])]) := by kernel_rfl

theorem bgA_go : exec Tryz.prog ctBg 400 (bgA ⟨⟨a1, a2, a3, a4⟩, ⟨b1, b2, b3, b4⟩, ⟨e, s, o, st, ap⟩, k⟩) =
 Tree.leaf
 (Conf.mk
 (SFrm.mk 44 none none
 [Item.inLoop (cAt Tryz.prog 44 [1, 1, 0, 1, 0, 0]), Item.inBlock 0, Item.code (cAt Tryz.prog 44 [1, 1, 1])]
 (mkJ 1
 [(1, .int .i64 (Int.neg 9223372036854775808)), (5, .nils), (12, .dat k),
 (13, .int .i64 (↑(D.len k) : Int)), (14, .int .i64 0)]
 0 29))
 [SFrm.mk 27 (some (opsAt Tryz.prog 27 [1, 1, 0], [3, 4, 5, 6])) (some 9) [Item.code (cAt Tryz.prog 27 [1, 1, 1])]
 (mkJ 0 [(1, .ptr 0 0), (3, .ptr 1 0), (7, .ptr 1 0)] 0 23)]
 [(0,
 OBlk.cells 29
 [.int .i64 a1, .int .i64 a2, .int .i64 a3, .int .i64 a4,
 .int .i64 b1, .int .i64 b2, .int .i64 b3, .int .i64 b4,
 .int .i64 e, .int .i64 s, .dat o, .int .i64 st, .int .i64 ap,
 .dat k]),
 (1,
 OBlk.cells 68
 [.int .i64 a1, .int .i64 a2, .int .i64 a3, .int .i64 a4,
 .int .i64 b1, .int .i64 b2, .int .i64 b3, .int .i64 b4,
 .int .i64 e, .int .i64 s, .dat o, .int .i64 st, .int .i64 ap,
 .dat k])]) := by kernel_rfl

theorem bgL_go : 
 let z1 : List SV := [.int .i64 a1, .int .i64 a2, .int .i64 a3, .int .i64 a4, .int .i64 b1, .int .i64 b2, .int .i64 b3, .int .i64 b4, .int .i64 e, .int .i64 s, .dat o, .int .i64 st, .int .i64 ap, .dat k]
 let z2 := (SFrm.mk 44 none none [Item.inLoop (cAt Tryz.prog 44 [1, 1, 0, 1, 0, 0]), Item.inBlock 0, Item.code (cAt Tryz.prog 44 [1, 1, 1])] (mkJ 1 [(1, .int .i64 n), (5, .vec 0), (12, .dat k), (13, .int .i64 (↑(D.len k) : Int)), (14, .int .i64 (IntKind.wrap .i64 (j + 1)))] 0 29))
 execR Tryz.prog ctBg 400 (unroll (bgL ⟨⟨a1, a2, a3, a4⟩, ⟨b1, b2, b3, b4⟩, ⟨e, s, o, st, ap⟩, k⟩ n q j)) =
 Tree.br (decide (j < (↑(D.len k) : Int))) (.need (0 ≤ j ∧ j < (↑(D.len k) : Int) ∧ D.sz k = 5) (.need (D.HasCells k (Int.toNat j) 0 [FT.int .i64, FT.int .i64, FT.int .i64, FT.slc, FT.slc]) (.br (decide
 (D.getInt k (Int.toNat j) 1 > n)) (.need (CyD.Ok (CyD.mk (D.getInt k (Int.toNat j) 0) (D.getInt k (Int.toNat j) 1) (D.getInt k (Int.toNat j) 2) (D.cell k (Int.toNat j) 3) (D.cell k (Int.toNat j) 4))) (.all fun hs => .all fun hs_1 => .need
 (D.sz q = 5 ∧ D.Fits (D.slc (D.hd (hs_1 0 0)) 5 [[D.int .i64 (D.getInt k (Int.toNat j) 0), D.int .i64 (D.getInt k (Int.toNat j) 1), D.int .i64 (D.getInt k (Int.toNat j) 2), D.like (hs 0 0) (D.to Int (D.cell k
 (Int.toNat j) 3)), D.like (hs 0 1) (D.to Wt (D.cell k (Int.toNat j) 4))]]) 5 ∧ (D.len q + D.len (D.slc (D.hd (hs_1 0 0)) 5 [[D.int .i64 (D.getInt k (Int.toNat j) 0), D.int .i64 (D.getInt k (Int.toNat j) 1), D.int .i64
 (D.getInt k (Int.toNat j) 2), D.like (hs 0 0) (D.to Int (D.cell k (Int.toNat j) 3)), D.like (hs 0 1) (D.to Wt (D.cell k (Int.toNat j) 4))]])) * 72 ≤ 140737488355328 ∧ D.len q + D.len (D.slc (D.hd (hs_1 0 0)) 5 [[D.int .i64
 (D.getInt k (Int.toNat j) 0), D.int .i64 (D.getInt k (Int.toNat j) 1), D.int .i64 (D.getInt k (Int.toNat j) 2), D.like (hs 0 0) (D.to Int (D.cell k (Int.toNat j) 3)), D.like (hs 0 1) (D.to Wt (D.cell k
 (Int.toNat j) 4))]]) ≤ 9223372036854775807) (.all fun hs_2 => .leaf (Conf.mk z2 [SFrm.mk 27 (some (opsAt Tryz.prog 27 [1, 1, 0], [3, 4, 5, 6])) (some 9) [Item.code (cAt Tryz.prog 27 [1, 1, 1])] (mkJ 0 [(1, .ptr 1 0),
 (3, .ptr 2 0), (7, .ptr 2 0)] 0 23)] [(0, OBlk.arr 32 (D.slc (D.hd (hs_2 0 0)) 5 (List.append (D.rows q) (D.rows (D.slc (D.hd (hs_1 0 0)) 5 [[D.int .i64 (D.getInt k (Int.toNat j) 0), D.int .i64 (D.getInt k
 (Int.toNat j) 1), D.int .i64 (D.getInt k (Int.toNat j) 2), D.like (hs 0 0) (D.to Int (D.cell k (Int.toNat j) 3)), D.like (hs 0 1) (D.to Wt (D.cell k (Int.toNat j) 4))]]))))), (1, OBlk.cells 29 z1), (2, OBlk.cells 68 z1)]))))
 (.leaf (Conf.mk z2 [SFrm.mk 27 (some (opsAt Tryz.prog 27 [1, 1, 0], [3, 4, 5, 6])) (some 9) [Item.code (cAt Tryz.prog 27 [1, 1, 1])] (mkJ 0 [(1, .ptr 1 0), (3, .ptr 2 0), (7, .ptr 2 0)] 0 23)] [(0, OBlk.arr 32 q),
 (1, OBlk.cells 29 z1), (2, OBlk.cells 68 z1)]))))) (.need (D.Is Int o ∧ D.len o ≤ 1048576) (.all fun hs => .leaf (Conf.mk (SFrm.mk 27 none none [Item.code (cAt Tryz.prog 27 [1, 1, 1, 1, 1])] (mkJ 0 [(1, .ptr 1 0),
 (2, .ptr 2 0), (3, .ptr 2 0), (7, .ptr 2 0), (9, .vec 0), (10, .ptr 2 0), (11, .ptr 2 0), (12, .ptr 2 13), (13, .ptr 2 0), (14, .ptr 1 8), (15, .ptr 1 10), (16, .dat o), (17, .vec 1017), (18, .ptr 2 0),
 (19, .ptr 2 0), (20, .ptr 2 8), (21, .ptr 2 10), (22, .ptr 2 0)] 0 23)) [] [(1017, OBlk.arr 3 (D.slc (D.hd (hs 0 0)) 1 (D.rows o))), (0, OBlk.arr 32 q), (1, OBlk.cells 29 z1), (2, OBlk.cells 68 [.int .i64 a1, .int .i64 a2, .int .i64 a3, .int .i64 a4, .int .i64 b1, .int .i64 b2, .int .i64 b3, .int .i64 b4, .int .i64 e, .int .i64 s, .vec 1017, .int .i64 st, .int .i64 ap, .vec 0])]))) := by
 intros; kernel_rfl

end
end Go.Proofs.YtllmgnhjljmihaaGreat
end
section
open Go
namespace Sx
def cyRow (k : D) (j : Int) (a b : D) : List D := [.int .i64 (k.getInt j.toNat 0), .int .i64 (k.getInt j.toNat 1), .int .i64 (k.getInt j.toNat 2), a, b]
def ownN (own : Bool) (k : D) (j : Nat) : Prop := match own with
  | true => k.HasCells j 0 [.int .i64, .int .i64, .int .i64, .slc, .slc] ∧ k.sz = 5
  | false => k.HasCells j 0 [.int .i64, .int .i64, .int .i64, .slc, .slc]
noncomputable def behT (own : Bool) (k : D) (n : Int) (q : D) (j : Int) (nxt : D → Int → Tree) (last : Tree) : Tree :=
  .br (decide (j < (k.len : Int)))
   (.need (0 ≤ j ∧ j < (k.len : Int) ∧ k.sz = 5)
    (.need (ownN own k j.toNat)
     (.br (decide (k.getInt j.toNat 1 > n))
      (.need (CyD.Ok (CyD.mk (k.getInt j.toNat 0) (k.getInt j.toNat 1) (k.getInt j.toNat 2) (k.cell j.toNat 3) (k.cell j.toNat 4)))
       (.all fun hs => .all fun hs1 => .need (q.sz = 5 ∧ D.Fits (D.slc (hs1 0 0).hd 5 [cyRow k j ((hs 0 0).like ((k.cell j.toNat 3).to Int)) ((hs 0 1).like ((k.cell j.toNat 4).to Wt))]) 5 ∧
          (q.len + (D.slc (hs1 0 0).hd 5 [cyRow k j ((hs 0 0).like ((k.cell j.toNat 3).to Int)) ((hs 0 1).like ((k.cell j.toNat 4).to Wt))]).len) * 72 ≤ 140737488355328 ∧
          q.len + (D.slc (hs1 0 0).hd 5 [cyRow k j ((hs 0 0).like ((k.cell j.toNat 3).to Int)) ((hs 0 1).like ((k.cell j.toNat 4).to Wt))]).len ≤ 9223372036854775807)
        (.all fun hs2 => nxt (D.slc (hs2 0 0).hd 5 (List.append q.rows (D.slc (hs1 0 0).hd 5 [cyRow k j ((hs 0 0).like ((k.cell j.toNat 3).to Int)) ((hs 0 1).like ((k.cell j.toNat 4).to Wt))]).rows)) (IntKind.i64.wrap (j + 1)))))
      (nxt q (IntKind.i64.wrap (j + 1))))))
   last
theorem behindL_snoc (l : List Cy) (n : Int) (c : Cy) : behindL (l ++ [c]) n = if c.number > n then behindL l n ++ [c] else behindL l n := by
  unfold behindL
  rw [List.filter_append]
  by_cases h : c.number > n
  · rw [if_pos h, List.filter_cons, if_pos (by simpa using h)]; rfl
  · rw [if_neg h, List.filter_cons, if_neg (by simpa using h)]; simp
theorem behindL_all {l : List Cy} {n : Int} (h : ∀ c, c ∈ l → c.number > n) : behindL l n = l := by
  unfold behindL
  exact List.filter_eq_self.2 fun c hc => by simpa using h c hc
theorem cyD_ok {k : D} (hk : k.Is Cy) (hok : ∀ c, c ∈ k.to Cy → CyOk c) {j : Nat} (hj : j < (k.to Cy).length) : CyD.Ok (CyD.mk (k.getInt j 0) (k.getInt j 1) (k.getInt j 2) (k.cell j 3) (k.cell j 4)) := by
  obtain ⟨_, h2, h3, h4⟩ := cy_cell hk hj
  have := hok _ (List.getElem_mem hj)
  rw [h4] at this
  obtain ⟨a, b, c⟩ := this
  refine ⟨h2, h3, ?_, ?_, c⟩
  · rw [D.Is.length (α := Int)]; exact a
  · rw [D.Is.length (α := Wt)]; exact b
section
variable {P : Program} {C : Ctx} {R : Value → World → Prop}
theorem beh_loop (own : Bool) {k : D} (hk : k.Is Cy) (hl : k.len ≤ 1048576) (hok : ∀ c, c ∈ k.to Cy → CyOk c) (n : Int) (L : D → Int → Conf) (last : D → Tree) (hri : ∀ q j, (L q j).top.ri = none)
    (step : ∀ (q : D) (j : Nat), (behT own k n q j (fun q' j' => .leaf (L q' j')) (last q)).holds P C R → Runs P C (unroll (L q j)) R)
    (fin : ∀ q : D, q.Is Cy → q.sz = 5 → q.to Cy = behindL (k.to Cy) n → (last q).holds P C R) : Runs P C (L (.slc none 5 []) 0) R := by
  have kl := D.Is.length (α := Cy) k
  refine runs_loop (fun p : D × Nat => L p.1 p.2) (fun p => p.2 ≤ (k.to Cy).length ∧ p.1.Is Cy ∧ p.1.sz = 5 ∧ p.1.to Cy = behindL ((k.to Cy).take p.2) n) (fun p => (k.to Cy).length - p.2) (fun _ => hri _ _) ?_ (.slc none 5 [], 0) ⟨Nat.zero_le _, is_nil _ _, rfl, rfl⟩
  intro ⟨q, j⟩ ⟨hj, hq, hz, hto⟩ ih
  simp only at hj hq hz hto ih
  have ql := D.Is.length (α := Cy) q
  have hfl : (behindL ((k.to Cy).take j) n).length ≤ j := by
    refine Nat.le_trans (List.length_filter_le _ _) ?_
    rw [List.length_take]; omega
  rw [hto] at ql
  refine step q j ⟨fun hcj => ?_, fun hcj => ?_⟩
  · have hcj : j < (k.to Cy).length := by have := of_decide_eq_true hcj; omega
    obtain ⟨c1, c2, c3, c4⟩ := cy_cell hk hcj
    have hn : (k.to Cy)[j].number = k.getInt j 1 := by rw [c4]; rfl
    have htk : (k.to Cy).take (j + 1) = (k.to Cy).take j ++ [(k.to Cy)[j]] := List.take_succ_eq_append_getElem hcj
    have c1' : ownN own k (Int.toNat (j : Int)) := by
      cases own with
      | true => exact ⟨c1, hk.size hcj⟩
      | false => exact c1
    refine ⟨⟨by omega, by omega, hk.size hcj⟩, c1', fun hb => ⟨cyD_ok hk hok hcj, fun hs hs1 => ⟨⟨hz, .inr rfl, by simp only [len_slc, List.length_cons, List.length_nil]; omega, by simp only [len_slc, List.length_cons, List.length_nil]; omega⟩, fun hs2 => ?_⟩⟩, fun hb => ?_⟩
    · have hb : k.getInt j 1 > n := of_decide_eq_true hb
      have hr := rows_app (rows_of hq) (cy_one (b := k.getInt j 0) (n := k.getInt j 1) (t := k.getInt j 2) (D.like_is (hs 0 0) ((k.cell j 3).to Int)) (D.like_to _ _) (D.like_is (hs 0 1) ((k.cell j 4).to Wt)) (D.like_to _ _))
      obtain ⟨i1, i2⟩ := is_of (h := (hs2 0 0).hd) (s := 5) rfl hr
      have := ih (_, j + 1) ⟨hcj, i1, rfl, i2.trans ?_⟩ (by simp only; omega)
      · simp only at this
        rw [← wrap_succ hcj (by omega)] at this
        exact this
      · simp only
        rw [htk, behindL_snoc, if_pos (by rw [hn]; exact hb), hto, c4]; rfl
    · have hb : ¬k.getInt j 1 > n := of_decide_eq_false hb
      have := ih (q, j + 1) ⟨hcj, hq, hz, ?_⟩ (by simp only; omega)
      · simp only at this
        rw [← wrap_succ hcj (by omega)] at this
        exact this
      · simp only
        rw [htk, behindL_snoc, if_neg (by rw [hn]; exact hb), hto]
  · have : j = (k.to Cy).length := by have := of_decide_eq_false hcj; omega
    subst this
    rw [List.take_length] at hto
    exact fin q hq hz hto
end
theorem cy_num {c : Cy} {s : List Int} (h : cyErr c s = 0) : 0 ≤ c.base ∧ c.base < c.number ∧ c.number ≤ 1073741824 := by
  unfold cyErr at h
  split at h
  · rename_i h1; exact absurd h h1
  · split at h
    · cases h
    · omega
theorem ck_cy {r : Rl} (h : formedR r = true) : ∀ c, c ∈ r.kept → cyErr c most = 0 := by
  unfold formedR at h
  simp only [Bool.and_eq_true, List.all_eq_true, decide_eq_true_eq] at h
  exact h.1.1.1.2
end Sx
end
section
open Go Go.Proofs Sx
namespace Go.Proofs.YtllmgnhjljmihaaGreat
set_option maxRecDepth 100000
theorem ctBgOk : Ctrs.Ok Tryz.prog ctBg := by
  intro x hx
  simp only [ctBg, List.mem_cons, List.not_mem_nil, or_false] at hx
  rcases hx with rfl | rfl
  · exact oCtr_ok lawCl1
  · exact ctrOf_ok lawCpC
theorem ctBgROk : Ctrs.Ok Tryz.prog ctBgR := by
  intro x hx
  rw [List.mem_singleton.1 hx]; exact ctrOf_ok lawCpR
noncomputable def bgM (x : RlD) (o q : D) : Mem := [(1017, .arr 3 o), (0, .arr 32 q), (2, OBlk.cells 68 [.int .i64 x.near.epoch, .int .i64 x.near.site, .int .i64 x.near.stored, .int .i64 x.near.applied, .int .i64 x.far.epoch, .int .i64 x.far.site, .int .i64 x.far.stored, .int .i64 x.far.applied,
  .int .i64 x.src.e, .int .i64 x.src.s, .vec 1017, .int .i64 x.src.st, .int .i64 x.src.ap, .vec 0])]
def bgPhi (x : RlD) (v : SV) (m : Mem) : Prop := v = .ptr 2 0 ∧ ∃ o q : D, m = bgM x o q ∧ (o.Is Int ∧ o.sz = 1 ∧ o.to Int = x.src.d.to Int) ∧ q.Is Cy ∧ q.sz = 5 ∧ q.to Cy = x.k.to Cy
theorem bgRuns {H : HV} {w : World} {x : RlD} (hx : x.Ok) (hmin : ∀ c, c ∈ x.k.to Cy → c.number > -9223372036854775808) : Runs Tryz.prog ⟨w, H⟩ ⟨bgC x, [], []⟩ (RetM w H (bgPhi x)) := by
  obtain ⟨⟨a1, a2, a3, a4⟩, ⟨b1, b2, b3, b4⟩, ⟨e, s, o, st, ap⟩, k⟩ := x
  obtain ⟨h1, h2, h3, h4, h5⟩ := hx
  simp only at h1 h2 h3 h4 h5 hmin
  apply goS_sound ctBgOk (fun _ => false) [(44, 8)] 400
  rw [bgC_in]
  show Runs _ _ (bgA ⟨⟨a1, a2, a3, a4⟩, ⟨b1, b2, b3, b4⟩, ⟨e, s, o, st, ap⟩, k⟩) _
  apply exec_sound ctBgOk 400
  rw [bgA_go]
  refine vecIn_to 9 32 5 none 5 (bgL ⟨⟨a1, a2, a3, a4⟩, ⟨b1, b2, b3, b4⟩, ⟨e, s, o, st, ap⟩, k⟩ (Int.neg 9223372036854775808) (.slc none 5 []) 0) (by kernel_rfl) ?_
  apply beh_loop false h2 h4 h5 (Int.neg 9223372036854775808) (fun q j => bgL ⟨⟨a1, a2, a3, a4⟩, ⟨b1, b2, b3, b4⟩, ⟨e, s, o, st, ap⟩, k⟩ (Int.neg 9223372036854775808) q j)
  · exact fun _ _ => rfl
  · intro q j hh
    apply execR_sound ctBgOk 400
    rw [bgL_go]
    exact hh
  · intro q hq hz hto
    refine ⟨⟨h1, h3⟩, fun hs => ?_⟩
    obtain ⟨p1, p2⟩ := slc_same h1 (D.hd (hs 0 0)) (s := 1) rfl
    refine retM (f := Tryz.f27) (l := [.ptr 2 0]) (bgM ⟨⟨a1, a2, a3, a4⟩, ⟨b1, b2, b3, b4⟩, ⟨e, s, o, st, ap⟩, k⟩ (D.slc (D.hd (hs 0 0)) 1 (D.rows o)) q) (by kernel_rfl) (by kernel_rfl) ?_ rfl (by kernel_rfl) ⟨rfl, _, _, rfl, ⟨p1, rfl, p2⟩, hq, hz, ?_⟩
    · exact .cons₂ _ (.cons₂ _ (.cons _ (.cons₂ _ .slnil)))
    · rw [hto]; exact behindL_all hmin
theorem bgC_pure {x : RlD} : ∀ k, k ∉ SV.keysL (bgC x).tmps := fun k hk => by
  have h : SV.keysL (bgC x).tmps = [] := by kernel_rfl
  rw [h] at hk; cases hk
end Go.Proofs.YtllmgnhjljmihaaGreat
end
section
namespace Sx
open Go RowKit
def fCtr (g : FuncId) (spec : D → D → SpecR) : Ctr := fun args _ m => match args with
  | [.dat d, .fn f [] [.ptr k 0]] => match Nat.beq f g with
    | true => match m.get k with
      | some (.cells _ [.dat a]) => match spec d a with
        | .scalar ps v => match v.flat with
          | true => .val ps v m
          | false => .bad
        | _ => .bad
      | _ => .bad
    | false => .bad
  | _ => .bad
def FLaw (P : Program) (f g : FuncId) (spec : D → D → SpecR) : Prop :=
  Bodied P f = true ∧ ∀ (H : HV) (w : World) (b : Nat) (d a : D), (rowD b [a]).Ok H → d.Ok H → d.IsSlc → a.Ok H → a.IsSlc → match spec d a with
    | .scalar ps v => (∀ p, p ∈ ps → p) → Runs P ⟨w, H⟩ (entry P f [.dat d, .fn g [] [.elt (rowD b [a]) 0 0]]) (RetS w H v)
    | _ => True
theorem fCtr_ok {P : Program} {f g : FuncId} {spec : D → D → SpecR} (h : FLaw P f g spec) : CtrOk P f (fCtr g spec) := by
  refine ⟨bodied_spec h.1, fun C E H w args key m gd hargs hk hk2 => ?_, ?_⟩
  · unfold CallRight
    have hctr : (∃ d k t a ps v, args = [.dat d, .fn g [] [.ptr k 0]] ∧ m.get k = some (.cells t [.dat a]) ∧ spec d a = .scalar ps v ∧ v.flat = true ∧ fCtr g spec args key m = .val ps v m) ∨ fCtr g spec args key m = .bad := by
      unfold fCtr
      split
      · rename_i d f' k
        split
        · rename_i hf
          have hf : f' = g := Nat.eq_of_beq_eq_true hf
          subst hf
          split
          · rename_i t a hg
            split
            · rename_i ps v hs
              split
              · rename_i hv
                exact .inl ⟨d, k, t, a, ps, v, rfl, hg, hs, hv, rfl⟩
              · exact .inr rfl
            · exact .inr rfl
          · exact .inr rfl
        · exact .inr rfl
      · exact .inr rfl
    rcases hctr with ⟨d, k, t, a, ps, v, rfl, hget, hspec, hflat, he⟩ | he
    · rw [he]
      simp only
      intro hp
      obtain ⟨c1, c2, c3, c4⟩ := gd.own k _ (Mem.get_mem hget)
      let Hp : HV := fun b o => if b = E.b k then (SV.denL E [.dat a])[o]? else H b o
      have hHp : HLe H Hp := fun b o u hu => by
        have : b ≠ E.b k := by rintro rfl; rw [c3] at hu; cases hu
        simp only [Hp, this, if_false, hu]
      have ha : a.Ok Hp ∧ a.IsSlc := ⟨c4.1.1.mono hHp, c4.1.2⟩
      have hd : d.Ok Hp ∧ d.IsSlc := ⟨hargs.1.1.mono hHp, hargs.1.2⟩
      have hrow : (rowD (E.b k) [a]).Ok Hp := by
        refine .slc _ 1 _ _ (fun _ => rfl) (by simp) (fun r hr => by rw [List.mem_singleton.1 hr]) (fun i j r x hi hj => ?_) (fun r hr x hx => by rw [List.mem_singleton.1 hr] at hx; rw [List.mem_singleton.1 hx]; exact ha.1)
        have hi0 : i = 0 := by
          cases i with
          | zero => rfl
          | succ i => simp at hi
        subst hi0
        simp only [List.getElem?_cons_zero, Option.some.injEq] at hi
        subst hi
        have hj0 : j = 0 := by
          cases j with
          | zero => rfl
          | succ j => simp at hj
        subst hj0
        simp only [List.getElem?_cons_zero, Option.some.injEq] at hj
        subst hj
        simp [Hp, SV.denL, SV.den]
      have hmem : InMem Hp w := fun b o u hu => by
        simp only [Hp] at hu
        split at hu
        · rename_i hb
          subst hb
          simp only [World.cell?, c2]
          simpa using hu
        · exact gd.cell b o u hu
      have hl := h.2 Hp w (E.b k) d a hrow hd.1 hd.2 ha.1 ha.2
      rw [hspec] at hl
      have hc := calls_of (args := [.dat d, .fn g [] [.elt (rowD (E.b k) [a]) 0 0]]) h.1 ⟨hd, ⟨trivial, hrow, trivial⟩, trivial⟩ E hmem (hl hp)
      have eargs : SV.denL E [.dat d, .fn g [] [.elt (rowD (E.b k) [a]) 0 0]] = SV.denL E [.dat d, .fn g [] [.ptr k 0]] := by
        simp only [SV.denL, SV.den, rowD, D.addr, D.hd]
        simp
      rw [eargs] at hc
      refine Calls.mono hc fun e w' ⟨u, he', H', ha', hu⟩ => ?_
      let H2 : HV := fun b o => if b = E.b k then none else H' b o
      have hle2 : HLe H H2 := fun b o u hu => by
        have hb : b ≠ E.b k := by rintro rfl; rw [c3] at hu; cases hu
        simp only [H2, hb, if_false]
        exact ha'.le b o u (hHp b o u hu)
      have hfr : ∀ b o u, H2 b o = some u → H b o = some u ∨ w.heap.size ≤ b := fun b o u hu => by
        simp only [H2] at hu
        split at hu
        · cases hu
        · rename_i hb
          rcases ha'.fresh b o u hu with h3 | h3
          · simp only [Hp, hb, if_false] at h3; exact .inl h3
          · exact .inr h3
      have hcell : ∀ b o u, H2 b o = some u → w'.cell? ⟨b, o, none⟩ = some u := fun b o u hu => by
        simp only [H2] at hu
        split at hu
        · cases hu
        · exact ha'.cell b o u hu
      refine ⟨E, H2, by rw [he', hu E], Agree.refl _ _, hle2, gd.call ha'.below hle2 hfr hcell, by cases v <;> simp [SV.flat] at hflat <;> simp [SV.Ok], ha'.below.size, fun b hb _ => ha'.below.block b hb, fun b x u hu => ?_,
        fun k o h => .inr ⟨o, h⟩, fun k o h hl => .inr ⟨k, o, h, hl, rfl⟩, ha'.below.os, ha'.below.tape, ha'.below.output⟩
      rcases hfr b x u hu with h1 | h1
      · exact .inl h1
      · exact .inr (.inl h1)
    · rw [he]; trivial
  · intro args key m hm
    unfold fCtr
    split
    · rename_i heq
      split at heq
      · split at heq
        · split at heq
          · split at heq
            · split at heq
              · cases heq; exact fun _ => rfl
              · cases heq
            · cases heq
          · cases heq
        · cases heq
      · cases heq
    · rename_i heq
      split at heq
      · split at heq
        · split at heq
          · split at heq
            · split at heq <;> cases heq
            · cases heq
          · cases heq
        · cases heq
      · cases heq
    · trivial
end Sx
end
section
open Go Go.Proofs Sx
namespace Go.Proofs.YtllmgnhjljmihaaGreat
set_option maxRecDepth 100000
set_option maxHeartbeats 0
noncomputable def ctCyc : Ctrs := [(25, ctrOf ((rdCy.two rdD).sp spCyCk))]
section
variable (d s : D) (b : Nat)
theorem cfc_in : exec Tryz.prog ctCyc 300 (entry Tryz.prog 83 [.dat d, .fn 87 [] [.elt (rowD b [s]) 0 0]]) =
 Tree.leaf
 (Conf.mk
 (SFrm.mk 101 none none
 [Item.inLoop (cAt Tryz.prog 101 [1, 0, 1, 0, 0]), Item.inBlock 0, Item.code (cAt Tryz.prog 101 [1, 1])]
 (mkJ 1
 [(0, .dat d), (1, SV.fn 87 [] [SV.elt (rowD b [s]) 0 0]), (7, .int .i64 (↑(D.len d) : Int)),
 (8, .int .i64 0)]
 0 19))
 [SFrm.mk 83 (some (opsAt Tryz.prog 83 [1, 0], [3, 4])) (some 7) [Item.code (cAt Tryz.prog 83 [1, 1])]
 (mkU
 [(0, .dat d), (1, SV.fn 87 [] [SV.elt (rowD b [s]) 0 0]), (4, .lb false), (5, .dat d),
 (6, SV.fn 87 [] [SV.elt (rowD b [s]) 0 0])]
 0 9)]
 []) := by kernel_rfl

end
end Go.Proofs.YtllmgnhjljmihaaGreat
end
section
open Go Go.Proofs Sx
namespace Go.Proofs.YtllmgnhjljmihaaGreat
set_option maxRecDepth 100000
set_option maxHeartbeats 0
section
variable (d : D) (n : Int)
theorem lea1_in : goS Tryz.prog [] (fun _ => false) [(52, 7)] 300 (entry Tryz.prog 52 [.dat d, .int .i64 n]) =
 Tree.leaf
 (Conf.mk
 (SFrm.mk 52 none none [Item.code (cAt Tryz.prog 52 [1, 0]), Item.code (cAt Tryz.prog 52 [1, 1])]
 (mkJ 0 [(0, .dat d), (3, .ptr 0 0)] 0 13))
 [] [(0, OBlk.cells 3 [.int .i64 n])]) := by kernel_rfl

end
end Go.Proofs.YtllmgnhjljmihaaGreat
end
section
open Go Go.Proofs Sx
namespace Go.Proofs.YtllmgnhjljmihaaGreat
set_option maxRecDepth 100000
set_option maxHeartbeats 0
noncomputable def leA (d : D) (n : Int) : Conf := Conf.mk (SFrm.mk 52 none none [Item.code (cAt Tryz.prog 52 [1, 0]), Item.code (cAt Tryz.prog 52 [1, 1])] (mkJ 0 [(0, .dat d), (3, .ptr 0 0)] 0 13)) [] [(0, OBlk.cells 3 [.int .i64 n])]
section
variable (d : D) (n : Int)
theorem lea2_in : exec Tryz.prog [] 300 (leA d n) =
 Tree.leaf
 (Conf.mk
 (SFrm.mk 101 none none
 [Item.inLoop (cAt Tryz.prog 101 [1, 0, 1, 0, 0]), Item.inBlock 0, Item.code (cAt Tryz.prog 101 [1, 1])]
 (mkJ 2
 [(0, .dat d), (1, SV.fn 84 [] [.ptr 0 0]), (7, .int .i64 (↑(D.len d) : Int)),
 (8, .int .i64 0)]
 0 19))
 [SFrm.mk 83 (some (opsAt Tryz.prog 83 [1, 0], [3, 4])) (some 7) [Item.code (cAt Tryz.prog 83 [1, 1])]
 (mkU
 [(0, .dat d), (1, SV.fn 84 [] [.ptr 0 0]), (4, .lb false), (5, .dat d), (6, SV.fn 84 [] [.ptr 0 0])]
 0 9),
 SFrm.mk 52 (some (opsAt Tryz.prog 52 [1, 0], [3])) (some 9) [Item.code (cAt Tryz.prog 52 [1, 1])]
 (mkJ 0 [(0, .dat d), (3, .ptr 0 0), (7, .dat d), (8, SV.fn 84 [] [.ptr 0 0])] 0 13)]
 [(0, OBlk.cells 3 [.int .i64 n])]) := by kernel_rfl

end
end Go.Proofs.YtllmgnhjljmihaaGreat
end
section
open Go Go.Proofs Sx
namespace Go.Proofs.YtllmgnhjljmihaaGreat
set_option maxRecDepth 100000
set_option maxHeartbeats 0
noncomputable def leX (d : D) (n j : Int) : Conf := Conf.mk (SFrm.mk 101 none none [Item.inLoop (cAt Tryz.prog 101 [1, 0, 1, 0, 0]), Item.inBlock 0, Item.code (cAt Tryz.prog 101 [1, 1])] (mkJ 2 [(0, .dat d), (1, SV.fn 84 [] [.ptr 0 0]), (7, .int .i64 (d.len : Int)), (8, .int .i64 j)] 0 19)) [SFrm.mk 83 (some (opsAt Tryz.prog 83 [1, 0], [3, 4])) (some 7) [Item.code (cAt Tryz.prog 83 [1, 1])] (mkU [(0, .dat d), (1, SV.fn 84 [] [.ptr 0 0]), (4, .lb false), (5, .dat d), (6, SV.fn 84 [] [.ptr 0 0])] 0 9), SFrm.mk 52 (some (opsAt Tryz.prog 52 [1, 0], [3])) (some 9) [Item.code (cAt Tryz.prog 52 [1, 1])] (mkJ 0 [(0, .dat d), (3, .ptr 0 0), (7, .dat d), (8, SV.fn 84 [] [.ptr 0 0])] 0 13)] [(0, OBlk.cells 3 [.int .i64 n])]
section
variable (d : D) (n j : Int)
theorem lex_go : exec Tryz.prog [] 300 (unroll (leX d n j)) =
 Tree.br (decide (j < (↑(D.len d) : Int)))
 (.need (0 ≤ j ∧ j < (↑(D.len d) : Int) ∧ D.sz d = 5)
 (.need
 (D.HasCells d (Int.toNat j) 0 [FT.int .i64, FT.int .i64, FT.int .i64, FT.slc, FT.slc])
 (.br (decide (D.getInt d (Int.toNat j) 0 > n))
 (.ret (SV.tup [.int .i64 (D.getInt d (Int.toNat j) 1), .bool !decide (j ≥ 0)]))
 (.leaf
 (Conf.mk
 (SFrm.mk 101 none none
 [Item.inLoop (cAt Tryz.prog 101 [1, 0, 1, 0, 0]), Item.inBlock 0, Item.code (cAt Tryz.prog 101 [1, 1])]
 (mkJ 2
 [(0, .dat d), (1, SV.fn 84 [] [.ptr 0 0]), (7, .int .i64 (↑(D.len d) : Int)),
 (8, .int .i64 (IntKind.wrap .i64 (j + 1)))]
 0 19))
 [SFrm.mk 83 (some (opsAt Tryz.prog 83 [1, 0], [3, 4])) (some 7) [Item.code (cAt Tryz.prog 83 [1, 1])]
 (mkU
 [(0, .dat d), (1, SV.fn 84 [] [.ptr 0 0]), (4, .lb false), (5, .dat d),
 (6, SV.fn 84 [] [.ptr 0 0])]
 0 9),
 SFrm.mk 52 (some (opsAt Tryz.prog 52 [1, 0], [3])) (some 9) [Item.code (cAt Tryz.prog 52 [1, 1])]
 (mkJ 0 [(0, .dat d), (3, .ptr 0 0), (7, .dat d), (8, SV.fn 84 [] [.ptr 0 0])] 0 13)]
 [(0, OBlk.cells 3 [.int .i64 (D.getInt d (Int.toNat j) 1)])])))))
 (.ret (SV.tup [.int .i64 n, .bool true])) := by kernel_rfl

end
end Go.Proofs.YtllmgnhjljmihaaGreat
end
section
open Go Go.Proofs Sx
namespace Sx
def spLead (x : D × Int) : SpecR := .data [x.1.Is Cy ∧ x.1.len ≤ 1048576] fun _ => .tup [.int .i64 (leadsI (x.1.to Cy) x.2).1, .bool (leadsI (x.1.to Cy) x.2).2]
theorem ret_lead {P : Program} {H : HV} {w : World} {a : Int} {b : Bool} {r : Int × Bool} (h : r = (a, b)) : (Tree.ret (.tup [.int .i64 a, .bool b])).holds P ⟨w, H⟩ (RetD w H fun _ => .tup [.int .i64 r.1, .bool r.2]) := by
  subst h
  exact ⟨rfl, fun E H' w' g hv => ⟨H', after_good g, fun _ => .slc none 0 [], fun E' => rfl, ⟨trivial, trivial, trivial⟩⟩⟩
end Sx
namespace Go.Proofs.YtllmgnhjljmihaaGreat
set_option maxRecDepth 100000
set_option maxHeartbeats 0
theorem lawLead : Law Tryz.prog 52 ((rdD.two rdInt).sp spLead) := by
  refine law_in _ (by kernel_rfl) fun H w ⟨d, n⟩ hok hp => ?_
  obtain ⟨hd, hlen⟩ := hp _ (List.mem_singleton.2 rfl)
  simp only at hd hlen
  have hl := D.Is.length (α := Cy) d
  apply goS_sound (noCtr _) _ _ 300
  rw [show (rdD.two rdInt).canon (d, n) = [.dat d, .int .i64 n] from rfl, lea1_in]
  show Runs Tryz.prog ⟨w, H⟩ (leA d n) (RetD w H fun _ => .tup [.int .i64 (leadsI (d.to Cy) n).1, .bool (leadsI (d.to Cy) n).2])
  apply exec_sound (noCtr _) 300
  rw [lea2_in]
  show Runs Tryz.prog ⟨w, H⟩ (leX d n ((0 : Nat) : Int)) _
  refine runs_loop (fun p : Int × Nat => leX d p.1 (p.2 : Int)) (fun p => p.2 ≤ (d.to Cy).length ∧ leadsI ((d.to Cy).take p.2) n = (p.1, true)) (fun p => (d.to Cy).length - p.2) (fun _ => rfl) ?_ (n, 0) ⟨Nat.zero_le _, rfl⟩
  rintro ⟨f, j⟩ ⟨hj, hpre⟩ ih
  simp only at hj hpre
  apply exec_sound (noCtr _) 300
  rw [lex_go]
  refine ⟨fun hc => ?_, fun hc => ?_⟩
  · have hc : j < (d.to Cy).length := by have := of_decide_eq_true hc; omega
    obtain ⟨c1, _, _, c3⟩ := cy_cell hd hc
    have eb : d.getInt (Int.toNat (j : Int)) 0 = ((d.to Cy)[j]).base := by rw [c3]; rfl
    have en : d.getInt (Int.toNat (j : Int)) 1 = ((d.to Cy)[j]).number := by rw [c3]; rfl
    have sn : leadsI ((d.to Cy).take (j + 1)) n = (((d.to Cy)[j]).number, !decide (((d.to Cy)[j]).base > f)) := by
      rw [List.take_succ_eq_append_getElem hc, leads_snoc, hpre, if_pos rfl]
    rw [eb, en]
    refine ⟨⟨by omega, by omega, hd.size hc⟩, c1, fun h1 => ?_, fun h1 => ?_⟩
    · rw [h1] at sn
      have e : leadsI (d.to Cy) n = (((d.to Cy)[j]).number, false) := by rw [leads_cut (j := j + 1) (by rw [sn]; rfl), sn]; rfl
      rw [decide_eq_true (show (j : Int) ≥ 0 by omega)]
      exact ret_lead e
    · rw [h1] at sn
      have := ih (((d.to Cy)[j]).number, j + 1) ⟨hc, sn⟩ (by simp only; omega)
      simp only at this
      rw [← wrap_succ hc (by omega)] at this
      exact this
  · have : j = (d.to Cy).length := by have := of_decide_eq_false hc; omega
    subst this
    rw [List.take_length] at hpre
    exact ret_lead hpre
end Go.Proofs.YtllmgnhjljmihaaGreat
end
section
open Go Go.Proofs Sx
namespace Go.Proofs.YtllmgnhjljmihaaGreat
set_option maxRecDepth 100000
set_option maxHeartbeats 0
noncomputable def ctCk : Ctrs := [(54, ctrOf (rdTgt.one.sp spCT)), (55, ctrOf (rdSrc.one.sp spCS)), (26, ctrOf (rdNone.sp spMost)), (53, ctrOf (rdD.one.sp spOff)), (52, ctrOf ((rdD.two rdInt).sp spLead)), (25, ctrOf ((rdCy.two rdD).sp spCyCk)), (23, ctrOf ((rdD.two rdD).sp spInts))]
noncomputable def eqiL (a b : D) (j : Int) : Conf := Conf.mk (SFrm.mk 23 none none [Item.inLoop (cAt Tryz.prog 23 [1, 1, 0, 1, 0, 0]), Item.inBlock 0, Item.code (cAt Tryz.prog 23 [1, 1, 1])] (mkJ 0 [(0, .dat a), (1, .dat b), (12, .int .i64 (a.len : Int)), (13, .int .i64 j)] 0 26)) [] []
noncomputable def ckL (x : RlD) (h : Hd) (e1 e2 e3 j : Int) : Conf := Conf.mk (SFrm.mk 24 none none [Item.inLoop (cAt Tryz.prog 24 [1, 0, 1, 0, 0]), Item.inBlock 0, Item.code (cAt Tryz.prog 24 [1, 1])] (mkJ 0 [(1, .ptr 0 0), (14, .vec 1), (15, .int .i64 3), (16, .int .i64 j)] 0 29)) [] [(0, OBlk.cells 29 (rlCs x)), (1, OBlk.arr 37 (D.slc h 1 [[D.int .i64 e1], [D.int .i64 e2], [D.int .i64 e3]]))]
section
variable (a b d o k : D) (h : Hd) (n j a1 a2 a3 a4 b1 b2 b3 b4 e s st ap e1 e2 e3 : Int)
theorem eqi_in : exec Tryz.prog [] 200 (entry Tryz.prog 23 [.dat a, .dat b]) =
 Tree.br ((↑(D.len a) : Int) != (↑(D.len b) : Int)) (.ret (.lb false))
 (.leaf
 (Conf.mk
 (SFrm.mk 23 none none
 [Item.inLoop (cAt Tryz.prog 23 [1, 1, 0, 1, 0, 0]), Item.inBlock 0, Item.code (cAt Tryz.prog 23 [1, 1, 1])]
 (mkJ 0 [(0, .dat a), (1, .dat b), (12, .int .i64 (↑(D.len a) : Int)), (13, .int .i64 0)] 0
 26))
 [] [])) := by kernel_rfl

theorem eqi_go : exec Tryz.prog [] 200 (unroll (eqiL a b j)) =
 Tree.br (decide (j < (↑(D.len a) : Int)))
 (.all fun hs =>
 .need (0 ≤ j ∧ j < (↑(D.len a) : Int) ∧ D.sz a = 1)
 (.need (D.HasCell a (Int.toNat j) 0 (FT.int .i64))
 (.need (0 ≤ j ∧ j < (↑(D.len b) : Int) ∧ D.sz b = 1)
 (.need (D.HasCell b (Int.toNat j) 0 (FT.int .i64))
 (.br (D.getInt a (Int.toNat j) 0 != D.getInt b (Int.toNat j) 0) (.ret (.lb false))
 (.leaf
 (Conf.mk
 (SFrm.mk 23 none none
 [Item.inLoop (cAt Tryz.prog 23 [1, 1, 0, 1, 0, 0]), Item.inBlock 0,
 Item.code (cAt Tryz.prog 23 [1, 1, 1])]
 (mkJ 0
 [(0, .dat a), (1, .dat b), (12, .int .i64 (↑(D.len a) : Int)),
 (13, .int .i64 (IntKind.wrap .i64 (j + 1)))]
 0 26))
 [] [])))))))
 (.ret (.lb true)) := by kernel_rfl

theorem ck_in : exec Tryz.prog ctCk 300 (entry Tryz.prog 24 [.agg [.int .i64 a1, .int .i64 a2, .int .i64 a3, .int .i64 a4, .int .i64 b1, .int .i64 b2, .int .i64 b3, .int .i64 b4, .int .i64 e, .int .i64 s, .dat o, .int .i64 st, .int .i64 ap, .dat k]]) =
 Tree.all fun hs =>
 .need (D.Is Int o)
 (.leaf
 (Conf.mk
 (SFrm.mk 24 none none
 [Item.inLoop (cAt Tryz.prog 24 [1, 0, 1, 0, 0]), Item.inBlock 0, Item.code (cAt Tryz.prog 24 [1, 1])]
 (mkJ 0
 [(1, .ptr 0 0), (14, .vec 1),
 (15,
 .int .i64
 (↑(D.len
 (D.slc (D.hd (hs 9 0)) 1
 [[D.int .i64 (checkTarget (Tgt.mk a1 a2 a3 a4))],
 [D.int .i64 (checkTarget (Tgt.mk b1 b2 b3 b4))],
 [D.int .i64 (checkSource (SrcD.src (SrcD.mk e s o st ap)))]])) :
 Int)),
 (16, .int .i64 0)]
 0 29))
 []
 [(0,
 OBlk.cells 29
 [.int .i64 a1, .int .i64 a2, .int .i64 a3, .int .i64 a4,
 .int .i64 b1, .int .i64 b2, .int .i64 b3, .int .i64 b4,
 .int .i64 e, .int .i64 s, .dat o, .int .i64 st, .int .i64 ap,
 .dat k]),
 (1,
 OBlk.arr 37
 (D.slc (D.hd (hs 9 0)) 1
 [[D.int .i64 (checkTarget (Tgt.mk a1 a2 a3 a4))],
 [D.int .i64 (checkTarget (Tgt.mk b1 b2 b3 b4))],
 [D.int .i64 (checkSource (SrcD.src (SrcD.mk e s o st ap)))]]))])) := by kernel_rfl

theorem ck0_go : goS Tryz.prog ctCk (fun _ => false) [(56, 2)] 100 (unroll (ckL ⟨⟨a1, a2, a3, a4⟩, ⟨b1, b2, b3, b4⟩, ⟨e, s, o, st, ap⟩, k⟩ h e1 e2 e3 0)) =
 Tree.br true
 (.need
 ((0 : Int) ≤ 0 ∧
 0 < (↑(D.len (D.slc h 1 [[D.int .i64 e1], [D.int .i64 e2], [D.int .i64 e3]])) : Int) ∧
 D.sz (D.slc h 1 [[D.int .i64 e1], [D.int .i64 e2], [D.int .i64 e3]]) = 1)
 (.need
 (D.HasCell (D.slc h 1 [[D.int .i64 e1], [D.int .i64 e2], [D.int .i64 e3]]) 0 0
 (FT.int .i64) ∧
 D.sz (D.slc h 1 [[D.int .i64 e1], [D.int .i64 e2], [D.int .i64 e3]]) = 1)
 (.br (D.getInt (D.slc h 1 [[D.int .i64 e1], [D.int .i64 e2], [D.int .i64 e3]]) 0 0 != 0)
 (.ret
 (.int .i64
 (D.getInt (D.slc h 1 [[D.int .i64 e1], [D.int .i64 e2], [D.int .i64 e3]]) 0 0)))
 (.leaf
 (Conf.mk
 (SFrm.mk 24 none none
 [Item.inLoop (cAt Tryz.prog 24 [1, 0, 1, 0, 0]), Item.inBlock 0, Item.code (cAt Tryz.prog 24 [1, 1])]
 (mkJ 0
 [(1, .ptr 0 0), (14, .vec 1), (15, .int .i64 3),
 (16, .int .i64 (IntKind.wrap .i64 (0 + 1)))]
 0 29))
 []
 [(0,
 OBlk.cells 29
 [.int .i64 a1, .int .i64 a2, .int .i64 a3, .int .i64 a4,
 .int .i64 b1, .int .i64 b2, .int .i64 b3, .int .i64 b4,
 .int .i64 e, .int .i64 s, .dat o, .int .i64 st, .int .i64 ap,
 .dat k]),
 (1,
 OBlk.arr 37 (D.slc h 1 [[D.int .i64 e1], [D.int .i64 e2], [D.int .i64 e3]]))])))))
 (.leaf
 (Conf.mk
 (SFrm.mk 56 none none [Item.code (cAt Tryz.prog 56 [0]), Item.code (cAt Tryz.prog 56 [1])]
 (mkJ 1 [(0, .ptr 0 0)] 0 157))
 [SFrm.mk 24 (some (opsAt Tryz.prog 24 [1, 1, 0, 0], [4])) (some 27)
 [Item.code (cAt Tryz.prog 24 [1, 1, 0, 1]), Item.code (cAt Tryz.prog 24 [1, 1, 1])] (mkJ 0 [] 0 29)]
 [(0,
 OBlk.cells 68
 [.int .i64 a1, .int .i64 a2, .int .i64 a3, .int .i64 a4,
 .int .i64 b1, .int .i64 b2, .int .i64 b3, .int .i64 b4,
 .int .i64 e, .int .i64 s, .dat o, .int .i64 st, .int .i64 ap,
 .dat k])])) := by kernel_rfl

theorem ck1_go : goS Tryz.prog ctCk (fun _ => false) [(56, 2)] 100 (unroll (ckL ⟨⟨a1, a2, a3, a4⟩, ⟨b1, b2, b3, b4⟩, ⟨e, s, o, st, ap⟩, k⟩ h e1 e2 e3 1)) =
 Tree.br true
 (.need
 ((0 : Int) ≤ 1 ∧
 1 < (↑(D.len (D.slc h 1 [[D.int .i64 e1], [D.int .i64 e2], [D.int .i64 e3]])) : Int) ∧
 D.sz (D.slc h 1 [[D.int .i64 e1], [D.int .i64 e2], [D.int .i64 e3]]) = 1)
 (.need
 (D.HasCell (D.slc h 1 [[D.int .i64 e1], [D.int .i64 e2], [D.int .i64 e3]]) 1 0
 (FT.int .i64) ∧
 D.sz (D.slc h 1 [[D.int .i64 e1], [D.int .i64 e2], [D.int .i64 e3]]) = 1)
 (.br (D.getInt (D.slc h 1 [[D.int .i64 e1], [D.int .i64 e2], [D.int .i64 e3]]) 1 0 != 0)
 (.ret
 (.int .i64
 (D.getInt (D.slc h 1 [[D.int .i64 e1], [D.int .i64 e2], [D.int .i64 e3]]) 1 0)))
 (.leaf
 (Conf.mk
 (SFrm.mk 24 none none
 [Item.inLoop (cAt Tryz.prog 24 [1, 0, 1, 0, 0]), Item.inBlock 0, Item.code (cAt Tryz.prog 24 [1, 1])]
 (mkJ 0
 [(1, .ptr 0 0), (14, .vec 1), (15, .int .i64 3),
 (16, .int .i64 (IntKind.wrap .i64 (1 + 1)))]
 0 29))
 []
 [(0,
 OBlk.cells 29
 [.int .i64 a1, .int .i64 a2, .int .i64 a3, .int .i64 a4,
 .int .i64 b1, .int .i64 b2, .int .i64 b3, .int .i64 b4,
 .int .i64 e, .int .i64 s, .dat o, .int .i64 st, .int .i64 ap,
 .dat k]),
 (1,
 OBlk.arr 37 (D.slc h 1 [[D.int .i64 e1], [D.int .i64 e2], [D.int .i64 e3]]))])))))
 (.leaf
 (Conf.mk
 (SFrm.mk 56 none none [Item.code (cAt Tryz.prog 56 [0]), Item.code (cAt Tryz.prog 56 [1])]
 (mkJ 1 [(0, .ptr 0 0)] 0 157))
 [SFrm.mk 24 (some (opsAt Tryz.prog 24 [1, 1, 0, 0], [4])) (some 27)
 [Item.code (cAt Tryz.prog 24 [1, 1, 0, 1]), Item.code (cAt Tryz.prog 24 [1, 1, 1])] (mkJ 0 [] 0 29)]
 [(0,
 OBlk.cells 68
 [.int .i64 a1, .int .i64 a2, .int .i64 a3, .int .i64 a4,
 .int .i64 b1, .int .i64 b2, .int .i64 b3, .int .i64 b4,
 .int .i64 e, .int .i64 s, .dat o, .int .i64 st, .int .i64 ap,
 .dat k])])) := by kernel_rfl

theorem ck2_go : goS Tryz.prog ctCk (fun _ => false) [(56, 2)] 100 (unroll (ckL ⟨⟨a1, a2, a3, a4⟩, ⟨b1, b2, b3, b4⟩, ⟨e, s, o, st, ap⟩, k⟩ h e1 e2 e3 2)) =
 Tree.br true
 (.need
 ((0 : Int) ≤ 2 ∧
 2 < (↑(D.len (D.slc h 1 [[D.int .i64 e1], [D.int .i64 e2], [D.int .i64 e3]])) : Int) ∧
 D.sz (D.slc h 1 [[D.int .i64 e1], [D.int .i64 e2], [D.int .i64 e3]]) = 1)
 (.need
 (D.HasCell (D.slc h 1 [[D.int .i64 e1], [D.int .i64 e2], [D.int .i64 e3]]) 2 0
 (FT.int .i64) ∧
 D.sz (D.slc h 1 [[D.int .i64 e1], [D.int .i64 e2], [D.int .i64 e3]]) = 1)
 (.br (D.getInt (D.slc h 1 [[D.int .i64 e1], [D.int .i64 e2], [D.int .i64 e3]]) 2 0 != 0)
 (.ret
 (.int .i64
 (D.getInt (D.slc h 1 [[D.int .i64 e1], [D.int .i64 e2], [D.int .i64 e3]]) 2 0)))
 (.leaf
 (Conf.mk
 (SFrm.mk 24 none none
 [Item.inLoop (cAt Tryz.prog 24 [1, 0, 1, 0, 0]), Item.inBlock 0, Item.code (cAt Tryz.prog 24 [1, 1])]
 (mkJ 0
 [(1, .ptr 0 0), (14, .vec 1), (15, .int .i64 3),
 (16, .int .i64 (IntKind.wrap .i64 (2 + 1)))]
 0 29))
 []
 [(0,
 OBlk.cells 29
 [.int .i64 a1, .int .i64 a2, .int .i64 a3, .int .i64 a4,
 .int .i64 b1, .int .i64 b2, .int .i64 b3, .int .i64 b4,
 .int .i64 e, .int .i64 s, .dat o, .int .i64 st, .int .i64 ap,
 .dat k]),
 (1,
 OBlk.arr 37 (D.slc h 1 [[D.int .i64 e1], [D.int .i64 e2], [D.int .i64 e3]]))])))))
 (.leaf
 (Conf.mk
 (SFrm.mk 56 none none [Item.code (cAt Tryz.prog 56 [0]), Item.code (cAt Tryz.prog 56 [1])]
 (mkJ 1 [(0, .ptr 0 0)] 0 157))
 [SFrm.mk 24 (some (opsAt Tryz.prog 24 [1, 1, 0, 0], [4])) (some 27)
 [Item.code (cAt Tryz.prog 24 [1, 1, 0, 1]), Item.code (cAt Tryz.prog 24 [1, 1, 1])] (mkJ 0 [] 0 29)]
 [(0,
 OBlk.cells 68
 [.int .i64 a1, .int .i64 a2, .int .i64 a3, .int .i64 a4,
 .int .i64 b1, .int .i64 b2, .int .i64 b3, .int .i64 b4,
 .int .i64 e, .int .i64 s, .dat o, .int .i64 st, .int .i64 ap,
 .dat k])])) := by kernel_rfl

theorem ck3_go : goS Tryz.prog ctCk (fun _ => false) [(56, 2)] 100 (unroll (ckL ⟨⟨a1, a2, a3, a4⟩, ⟨b1, b2, b3, b4⟩, ⟨e, s, o, st, ap⟩, k⟩ h e1 e2 e3 3)) =
 Tree.br false
 (.need
 ((0 : Int) ≤ 3 ∧
 3 < (↑(D.len (D.slc h 1 [[D.int .i64 e1], [D.int .i64 e2], [D.int .i64 e3]])) : Int) ∧
 D.sz (D.slc h 1 [[D.int .i64 e1], [D.int .i64 e2], [D.int .i64 e3]]) = 1)
 (.need
 (D.HasCell (D.slc h 1 [[D.int .i64 e1], [D.int .i64 e2], [D.int .i64 e3]]) 3 0
 (FT.int .i64) ∧
 D.sz (D.slc h 1 [[D.int .i64 e1], [D.int .i64 e2], [D.int .i64 e3]]) = 1)
 (.br (D.getInt (D.slc h 1 [[D.int .i64 e1], [D.int .i64 e2], [D.int .i64 e3]]) 3 0 != 0)
 (.ret
 (.int .i64
 (D.getInt (D.slc h 1 [[D.int .i64 e1], [D.int .i64 e2], [D.int .i64 e3]]) 3 0)))
 (.leaf
 (Conf.mk
 (SFrm.mk 24 none none
 [Item.inLoop (cAt Tryz.prog 24 [1, 0, 1, 0, 0]), Item.inBlock 0, Item.code (cAt Tryz.prog 24 [1, 1])]
 (mkJ 0
 [(1, .ptr 0 0), (14, .vec 1), (15, .int .i64 3),
 (16, .int .i64 (IntKind.wrap .i64 (3 + 1)))]
 0 29))
 []
 [(0,
 OBlk.cells 29
 [.int .i64 a1, .int .i64 a2, .int .i64 a3, .int .i64 a4,
 .int .i64 b1, .int .i64 b2, .int .i64 b3, .int .i64 b4,
 .int .i64 e, .int .i64 s, .dat o, .int .i64 st, .int .i64 ap,
 .dat k]),
 (1,
 OBlk.arr 37 (D.slc h 1 [[D.int .i64 e1], [D.int .i64 e2], [D.int .i64 e3]]))])))))
 (.leaf
 (Conf.mk
 (SFrm.mk 56 none none [Item.code (cAt Tryz.prog 56 [0]), Item.code (cAt Tryz.prog 56 [1])]
 (mkJ 1 [(0, .ptr 0 0)] 0 157))
 [SFrm.mk 24 (some (opsAt Tryz.prog 24 [1, 1, 0, 0], [4])) (some 27)
 [Item.code (cAt Tryz.prog 24 [1, 1, 0, 1]), Item.code (cAt Tryz.prog 24 [1, 1, 1])] (mkJ 0 [] 0 29)]
 [(0,
 OBlk.cells 68
 [.int .i64 a1, .int .i64 a2, .int .i64 a3, .int .i64 a4,
 .int .i64 b1, .int .i64 b2, .int .i64 b3, .int .i64 b4,
 .int .i64 e, .int .i64 s, .dat o, .int .i64 st, .int .i64 ap,
 .dat k])])) := by kernel_rfl

end
end Go.Proofs.YtllmgnhjljmihaaGreat
end
section
open Go Go.Proofs Sx
namespace Sx
def anyCy (s : List Int) (l : List Cy) : Bool := l.any fun c => decide (cyErr c s ≠ 0)
def spAnyCy (d s : D) : SpecR := .scalar [d.Is Cy ∧ d.len ≤ 1048576 ∧ (∀ c, c ∈ d.to Cy → CyOk c) ∧ s.Is Int ∧ s.len ≤ 1048576] (.bool (anyCy (s.to Int) (d.to Cy)))
end Sx
namespace Go.Proofs.YtllmgnhjljmihaaGreat
set_option maxRecDepth 100000
set_option maxHeartbeats 0
noncomputable def cfX (d s : D) (b : Nat) (j : Int) : Conf := Conf.mk (SFrm.mk 101 none none [Item.inLoop (cAt Tryz.prog 101 [1, 0, 1, 0, 0]), Item.inBlock 0, Item.code (cAt Tryz.prog 101 [1, 1])] (mkJ 1 [(0, .dat d), (1, SV.fn 87 [] [SV.elt (rowD b [s]) 0 0]), (7, .int .i64 (d.len : Int)), (8, .int .i64 j)] 0 19)) [SFrm.mk 83 (some (opsAt Tryz.prog 83 [1, 0], [3, 4])) (some 7) [Item.code (cAt Tryz.prog 83 [1, 1])] (mkU [(0, .dat d), (1, SV.fn 87 [] [SV.elt (rowD b [s]) 0 0]), (4, .lb false), (5, .dat d), (6, SV.fn 87 [] [SV.elt (rowD b [s]) 0 0])] 0 9)] []
noncomputable def ctFm : Ctrs := [(26, ctrOf (rdNone.sp spMost)), (53, ctrOf (rdD.one.sp spOff)), (52, ctrOf ((rdD.two rdInt).sp spLead)), (83, fCtr 87 spAnyCy), (23, ctrOf ((rdD.two rdD).sp spInts))]
noncomputable def fmA (x : RlD) : Conf := Conf.mk (SFrm.mk 56 none none [Item.code (cAt Tryz.prog 56 [0]), Item.code (cAt Tryz.prog 56 [1])] (mkJ 1 [(0, .ptr 0 0)] 0 157)) [SFrm.mk 24 (some (opsAt Tryz.prog 24 [1, 1, 0, 0], [4])) (some 27) [Item.code (cAt Tryz.prog 24 [1, 1, 0, 1]), Item.code (cAt Tryz.prog 24 [1, 1, 1])] (mkJ 0 [] 0 29)] [(0, OBlk.cells 68 (rlCs x))]
section
variable (d s o k : D) (b : Nat) (j a1 a2 a3 a4 b1 b2 b3 b4 e si st ap : Int)
theorem cfx_go : exec Tryz.prog ctCyc 300 (unroll (cfX d s b j)) =
 Tree.br (decide (j < (↑(D.len d) : Int)))
 (.need (0 ≤ j ∧ j < (↑(D.len d) : Int) ∧ D.sz d = 5)
 (.need
 (D.HasCells d (Int.toNat j) 0 [FT.int .i64, FT.int .i64, FT.int .i64, FT.slc, FT.slc])
 (.need (D.HasCell (rowD b [s]) 0 0 FT.slc)
 (.need
 (CyD.Ok
 (CyD.mk (D.getInt d (Int.toNat j) 0) (D.getInt d (Int.toNat j) 1) (D.getInt d (Int.toNat j) 2)
 (D.cell d (Int.toNat j) 3) (D.cell d (Int.toNat j) 4)) ∧
 D.Is Int (D.cell (rowD b [s]) 0 0) ∧ D.len (D.cell (rowD b [s]) 0 0) ≤ 1048576)
 (.br
 (cyErr
 (CyD.cy
 (CyD.mk (D.getInt d (Int.toNat j) 0) (D.getInt d (Int.toNat j) 1) (D.getInt d (Int.toNat j) 2)
 (D.cell d (Int.toNat j) 3) (D.cell d (Int.toNat j) 4)))
 (D.to Int (D.cell (rowD b [s]) 0 0)) !=
 0)
 (.ret (.bool (decide (j ≥ 0))))
 (.leaf
 (Conf.mk
 (SFrm.mk 101 none none
 [Item.inLoop (cAt Tryz.prog 101 [1, 0, 1, 0, 0]), Item.inBlock 0,
 Item.code (cAt Tryz.prog 101 [1, 1])]
 (mkJ 1
 [(0, .dat d), (1, SV.fn 87 [] [SV.elt (rowD b [s]) 0 0]),
 (7, .int .i64 (↑(D.len d) : Int)),
 (8, .int .i64 (IntKind.wrap .i64 (j + 1)))]
 0 19))
 [SFrm.mk 83 (some (opsAt Tryz.prog 83 [1, 0], [3, 4])) (some 7) [Item.code (cAt Tryz.prog 83 [1, 1])]
 (mkU
 [(0, .dat d), (1, SV.fn 87 [] [SV.elt (rowD b [s]) 0 0]), (4, .lb false), (5, .dat d),
 (6, SV.fn 87 [] [SV.elt (rowD b [s]) 0 0])]
 0 9)]
 [])))))))
 (.ret (.bool false)) := by kernel_rfl


end
end Go.Proofs.YtllmgnhjljmihaaGreat
end
section
open Go Go.Proofs Sx
namespace Go.Proofs.YtllmgnhjljmihaaGreat
set_option maxRecDepth 100000
theorem lawEqI : Law Tryz.prog 23 ((rdD.two rdD).sp spInts) := by
  refine law_in _ (by kernel_rfl) fun H w ⟨a, b⟩ hok hp => ?_
  obtain ⟨ha, hb, hlen⟩ := hp _ (List.mem_singleton.2 rfl)
  simp only at ha hb hlen
  have hla := D.Is.length (α := Int) a
  have hlb := D.Is.length (α := Int) b
  apply exec_sound (noCtr _) 200
  rw [show (rdD.two rdD).canon (a, b) = [.dat a, .dat b] from rfl, eqi_in]
  refine ⟨fun hc => ret_lb ?_, fun hc => ?_⟩
  · exact same_not fun he => by simp [hla, hlb, he] at hc
  have hc' : (a.to Int).length = (b.to Int).length := by simp [hla, hlb] at hc; omega
  refine runs_loop (fun j : Nat => eqiL a b j) (fun j => j ≤ (a.to Int).length ∧ (a.to Int).take j = (b.to Int).take j) (fun j => (a.to Int).length - j) (fun _ => rfl) ?_ 0 ⟨Nat.zero_le _, rfl⟩
  intro j ⟨hj, hpre⟩ ih
  apply exec_sound (noCtr _) 200
  rw [eqi_go]
  refine ⟨fun hc _ => ?_, fun hc => ret_lb ?_⟩
  · have hc : j < (a.to Int).length := by have := of_decide_eq_true hc; omega
    obtain ⟨c1, c2, c3⟩ := int_at ha hc
    obtain ⟨e1, e2, e3⟩ := int_at hb (hc' ▸ hc)
    refine ⟨c1, c2, e1, e2, fun h => ret_lb ?_, fun h => ?_⟩
    · refine same_not fun he => ?_
      simp only [c3, e3, he, bne_self_eq_false] at h
      cases h
    · have hx : (a.to Int)[j] = (b.to Int)[j]'(hc' ▸ hc) := by rw [c3, e3] at h; simpa using h
      have := ih (j + 1) ⟨hc, take_succ_eq hc (hc' ▸ hc) hpre hx⟩ (by omega)
      rw [← wrap_succ hc (by omega)] at this
      exact this
  · have := of_decide_eq_false hc
    exact (decide_eq_true (list_eq_of hc' (by omega) hpre)).symm

theorem ctCycOk : Ctrs.Ok Tryz.prog ctCyc := by
  intro x hx
  rw [List.mem_singleton.1 hx]; exact ctrOf_ok lawCyCk
theorem anyCy_snoc (s : List Int) (l : List Cy) (c : Cy) : anyCy s (l ++ [c]) = (anyCy s l || decide (cyErr c s ≠ 0)) := by simp [anyCy]
theorem anyCy_cut {s : List Int} {l : List Cy} {j : Nat} (hj : j < l.length) (h : cyErr l[j] s ≠ 0) : anyCy s l = true := List.any_eq_true.2 ⟨_, List.getElem_mem hj, by simpa using h⟩
theorem lawAnyCy : FLaw Tryz.prog 83 87 spAnyCy := by
  refine ⟨by kernel_rfl, fun H w b d s hrow hdo hds hso hss => ?_⟩
  intro hp
  obtain ⟨hd, hlen, hcs, hs, hsl⟩ := hp _ (List.mem_singleton.2 rfl)
  have hl := D.Is.length (α := Cy) d
  apply exec_sound ctCycOk 300
  rw [cfc_in]
  show Runs Tryz.prog ⟨w, H⟩ (cfX d s b ((0 : Nat) : Int)) _
  refine runs_loop (fun j : Nat => cfX d s b (j : Int)) (fun j => j ≤ (d.to Cy).length ∧ anyCy (s.to Int) ((d.to Cy).take j) = false) (fun j => (d.to Cy).length - j) (fun _ => rfl) ?_ 0 ⟨Nat.zero_le _, rfl⟩
  intro j ⟨hj, hpre⟩ ih
  apply exec_sound ctCycOk 300
  rw [cfx_go]
  have e0 : (rowD b [s]).cell 0 0 = s := rfl
  have c0 : (rowD b [s]).HasCell 0 0 .slc := by obtain ⟨x, y, z, rfl⟩ := hss; exact ⟨x, y, z, rfl⟩
  rw [e0]
  refine ⟨fun hc => ?_, fun hc => ret_bool ?_⟩
  · have hc : j < (d.to Cy).length := by have := of_decide_eq_true hc; omega
    obtain ⟨c1, _, _, c3⟩ := cy_cell hd hc
    refine ⟨⟨by omega, by omega, hd.size hc⟩, c1, c0, ⟨cyD_ok hd hcs hc, hs, hsl⟩, fun h => ret_bool ?_, fun h => ?_⟩
    · have h : cyErr (d.to Cy)[j] (s.to Int) ≠ 0 := by rw [c3]; simpa using h
      rw [anyCy_cut hc h]
      exact decide_eq_true (by omega)
    · have h : cyErr (d.to Cy)[j] (s.to Int) = 0 := by rw [c3]; simpa using h
      have := ih (j + 1) ⟨hc, by rw [List.take_succ_eq_append_getElem hc, anyCy_snoc, hpre, h]; rfl⟩ (by omega)
      rw [← wrap_succ hc (by omega)] at this
      exact this
  · have : j = (d.to Cy).length := by have := of_decide_eq_false hc; omega
    subst this
    rw [List.take_length] at hpre
    exact hpre.symm
end Go.Proofs.YtllmgnhjljmihaaGreat
end
section
open Go Go.Proofs Sx
namespace Go.Proofs.YtllmgnhjljmihaaGreat
set_option maxRecDepth 100000
set_option maxHeartbeats 0
noncomputable def fmS : List (FuncId × Nat) := [(56, 64), (56, 107), (56, 108), (56, 132)]
section
variable (d s o k : D) (b : Nat) (j a1 a2 a3 a4 b1 b2 b3 b4 e si st ap : Int)
theorem fmA_go : goS Tryz.prog ctFm (fun _ => false) fmS 300 (fmA ⟨⟨a1, a2, a3, a4⟩, ⟨b1, b2, b3, b4⟩, ⟨e, si, o, st, ap⟩, k⟩) =
 Tree.all fun hs =>
 .br (decide (a2 = b2))
 (.need (decide (a2 = b2) = true)
 (.need (decide (a2 = b2) = true)
 (.need (decide (a2 = b2) = true)
 (.need (decide (a2 = b2) = true)
 (.need (decide (a2 = b2) = true)
 (.need (decide (a2 = b2) = true)
 (.need (decide (a2 = b2) = true)
 (.need (decide (a2 = b2) = true)
 (.need (decide (a2 = b2) = true)
 (.need (decide (a2 = b2) = true)
 (.need (decide (a2 = b2) = true)
 (.need (decide (a2 = b2) = true)
 (.need (decide (a2 = b2) = true)
 (.need (decide (a2 = b2) = true) (.ret (.int .i64 3))))))))))))))))
 (.br (si != b2)
 (.need (decide (a2 = b2) = false)
 (.need (decide (a2 = b2) = false)
 (.need (decide (a2 = b2) = false)
 (.need (decide (a2 = b2) = false)
 (.need (decide (a2 = b2) = false)
 (.need (decide (a2 = b2) = false)
 (.need (decide (a2 = b2) = false)
 (.need (decide (a2 = b2) = false)
 (.need (decide (a2 = b2) = false)
 (.need (decide (a2 = b2) = false)
 (.need (decide (a2 = b2) = false)
 (.need (decide (a2 = b2) = false)
 (.need (decide (a2 = b2) = false)
 (.need (decide (a2 = b2) = false)
 (.need ((si != b2) = true)
 (.need ((si != b2) = true)
 (.need ((si != b2) = true)
 (.need ((si != b2) = true)
 (.need ((si != b2) = true)
 (.need ((si != b2) = true)
 (.need ((si != b2) = true)
 (.need ((si != b2) = true)
 (.need ((si != b2) = true)
 (.need ((si != b2) = true)
 (.need ((si != b2) = true)
 (.need ((si != b2) = true)
 (.need ((si != b2) = true)
 (.need ((si != b2) = true)
 (.ret
 (.int .i64 3))))))))))))))))))))))))))))))
 (.br (a1 != b1)
 (.need (decide (a2 = b2) = false)
 (.need (decide (a2 = b2) = false)
 (.need (decide (a2 = b2) = false)
 (.need (decide (a2 = b2) = false)
 (.need (decide (a2 = b2) = false)
 (.need (decide (a2 = b2) = false)
 (.need (decide (a2 = b2) = false)
 (.need (decide (a2 = b2) = false)
 (.need (decide (a2 = b2) = false)
 (.need (decide (a2 = b2) = false)
 (.need (decide (a2 = b2) = false)
 (.need (decide (a2 = b2) = false)
 (.need (decide (a2 = b2) = false)
 (.need (decide (a2 = b2) = false)
 (.need ((si != b2) = false)
 (.need ((si != b2) = false)
 (.need ((si != b2) = false)
 (.need ((si != b2) = false)
 (.need ((si != b2) = false)
 (.need ((si != b2) = false)
 (.need ((si != b2) = false)
 (.need ((si != b2) = false)
 (.need ((si != b2) = false)
 (.need ((si != b2) = false)
 (.need ((si != b2) = false)
 (.need ((si != b2) = false)
 (.need ((si != b2) = false)
 (.need ((si != b2) = false)
 (.need ((a1 != b1) = true)
 (.need ((a1 != b1) = true)
 (.need ((a1 != b1) = true)
 (.need ((a1 != b1) = true)
 (.need ((a1 != b1) = true)
 (.need ((a1 != b1) = true)
 (.need ((a1 != b1) = true)
 (.need ((a1 != b1) = true)
 (.need ((a1 != b1) = true)
 (.need ((a1 != b1) = true)
 (.need ((a1 != b1) = true)
 (.need ((a1 != b1) = true)
 (.need ((a1 != b1) = true)
 (.need ((a1 != b1) = true)
 (.ret
 (.int .i64
 3))))))))))))))))))))))))))))))))))))))))))))
 (.need (decide (a2 = b2) = false)
 (.need (decide (a2 = b2) = false)
 (.need (decide (a2 = b2) = false)
 (.need (decide (a2 = b2) = false)
 (.need (decide (a2 = b2) = false)
 (.need (decide (a2 = b2) = false)
 (.need (decide (a2 = b2) = false)
 (.need (decide (a2 = b2) = false)
 (.need (decide (a2 = b2) = false)
 (.need (decide (a2 = b2) = false)
 (.need (decide (a2 = b2) = false)
 (.need (decide (a2 = b2) = false)
 (.need (decide (a2 = b2) = false)
 (.need (decide (a2 = b2) = false)
 (.need ((si != b2) = false)
 (.need ((si != b2) = false)
 (.need ((si != b2) = false)
 (.need ((si != b2) = false)
 (.need ((si != b2) = false)
 (.need ((si != b2) = false)
 (.need ((si != b2) = false)
 (.need ((si != b2) = false)
 (.need ((si != b2) = false)
 (.need ((si != b2) = false)
 (.need ((si != b2) = false)
 (.need ((si != b2) = false)
 (.need ((si != b2) = false)
 (.need ((si != b2) = false)
 (.need ((a1 != b1) = false)
 (.need ((a1 != b1) = false)
 (.need ((a1 != b1) = false)
 (.need ((a1 != b1) = false)
 (.need ((a1 != b1) = false)
 (.need ((a1 != b1) = false)
 (.need ((a1 != b1) = false)
 (.need ((a1 != b1) = false)
 (.need ((a1 != b1) = false)
 (.need ((a1 != b1) = false)
 (.need ((a1 != b1) = false)
 (.need ((a1 != b1) = false)
 (.need ((a1 != b1) = false)
 (.need
 ((a1 != b1) = false)
 (.br (a1 != e)
 (.ret
 (.int .i64 3))
 (.leaf
 (Conf.mk
 (SFrm.mk 56 none none
 [Item.code
 (cAt Tryz.prog
 56
 [1, 1, 0, 0]),
 Item.code
 (cAt Tryz.prog
 56
 [1, 1, 0, 1]),
 Item.code
 (cAt Tryz.prog
 56 [1, 1, 1])]
 (mkJ 1
 [(0, .ptr 0 0)]
 0 157))
 [SFrm.mk 24
 (some
 (opsAt Tryz.prog
 24
 [1, 1, 0,
 0],
 [4]))
 (some 27)
 [Item.code
 (cAt Tryz.prog
 24
 [1, 1, 0,
 1]),
 Item.code
 (cAt Tryz.prog
 24
 [1, 1, 1])]
 (mkJ 0 [] 0 29)]
 [(0,
 OBlk.cells 68
 [.int
 .i64
 a1,
 .int
 .i64
 a2,
 .int
 .i64
 a3,
 .int
 .i64
 a4,
 .int
 .i64
 b1,
 .int
 .i64
 b2,
 .int
 .i64
 b3,
 .int
 .i64
 b4,
 .int
 .i64
 e,
 .int
 .i64
 si,
 .dat o,
 .int
 .i64
 st,
 .int
 .i64
 ap,
 .dat
 k])]))))))))))))))))))))))))))))))))))))))))))))))) := by kernel_rfl

end
end Go.Proofs.YtllmgnhjljmihaaGreat
end
section
open Go Go.Proofs Sx
namespace Go.Proofs.YtllmgnhjljmihaaGreat
set_option maxRecDepth 100000
set_option maxHeartbeats 0
noncomputable def fmK : List SFrm := [SFrm.mk 24 (some (opsAt Tryz.prog 24 [1, 1, 0, 0], [4])) (some 27) [Item.code (cAt Tryz.prog 24 [1, 1, 0, 1]), Item.code (cAt Tryz.prog 24 [1, 1, 1])] (mkJ 0 [] 0 29)]
noncomputable def fmB (x : RlD) : Conf := Conf.mk (SFrm.mk 56 none none [Item.code (cAt Tryz.prog 56 [1, 1, 0, 0]), Item.code (cAt Tryz.prog 56 [1, 1, 0, 1]), Item.code (cAt Tryz.prog 56 [1, 1, 1])] (mkJ 1 [(0, .ptr 0 0)] 0 157)) fmK [(0, OBlk.cells 68 (rlCs x))]
noncomputable def fmC (x : RlD) : Conf := Conf.mk (SFrm.mk 56 none none [Item.code (cAt Tryz.prog 56 [1, 1, 1, 0]), Item.code (cAt Tryz.prog 56 [1, 1, 1, 1])] (mkJ 1 [(0, .ptr 0 0)] 0 157)) fmK [(0, OBlk.cells 68 (rlCs x))]
section
variable (d s o k : D) (b : Nat) (j a1 a2 a3 a4 b1 b2 b3 b4 e si st ap : Int)
theorem fmB_go : goS Tryz.prog ctFm (fun _ => false) fmS 300 (fmB ⟨⟨a1, a2, a3, a4⟩, ⟨b1, b2, b3, b4⟩, ⟨e, si, o, st, ap⟩, k⟩) =
 Tree.all fun hs =>
 .br (a3 != a4)
 (.need ((a3 != a4) = true)
 (.need ((a3 != a4) = true)
 (.need ((a3 != a4) = true)
 (.need ((a3 != a4) = true)
 (.need ((a3 != a4) = true)
 (.need ((a3 != a4) = true)
 (.need ((a3 != a4) = true)
 (.need ((a3 != a4) = true)
 (.need ((a3 != a4) = true)
 (.need ((a3 != a4) = true)
 (.need ((a3 != a4) = true)
 (.need ((a3 != a4) = true)
 (.need ((a3 != a4) = true)
 (.need ((a3 != a4) = true) (.ret (.int .i64 3))))))))))))))))
 (.br (b3 != st)
 (.need ((a3 != a4) = false)
 (.need ((a3 != a4) = false)
 (.need ((a3 != a4) = false)
 (.need ((a3 != a4) = false)
 (.need ((a3 != a4) = false)
 (.need ((a3 != a4) = false)
 (.need ((a3 != a4) = false)
 (.need ((a3 != a4) = false)
 (.need ((a3 != a4) = false)
 (.need ((a3 != a4) = false)
 (.need ((a3 != a4) = false)
 (.need ((a3 != a4) = false)
 (.need ((a3 != a4) = false)
 (.need ((a3 != a4) = false)
 (.need ((b3 != st) = true)
 (.need ((b3 != st) = true)
 (.need ((b3 != st) = true)
 (.need ((b3 != st) = true)
 (.need ((b3 != st) = true)
 (.need ((b3 != st) = true)
 (.need ((b3 != st) = true)
 (.need ((b3 != st) = true)
 (.need ((b3 != st) = true)
 (.need ((b3 != st) = true)
 (.need ((b3 != st) = true)
 (.need ((b3 != st) = true)
 (.need ((b3 != st) = true)
 (.need ((b3 != st) = true)
 (.ret
 (.int .i64 3))))))))))))))))))))))))))))))
 (.need ((a3 != a4) = false)
 (.need ((a3 != a4) = false)
 (.need ((a3 != a4) = false)
 (.need ((a3 != a4) = false)
 (.need ((a3 != a4) = false)
 (.need ((a3 != a4) = false)
 (.need ((a3 != a4) = false)
 (.need ((a3 != a4) = false)
 (.need ((a3 != a4) = false)
 (.need ((a3 != a4) = false)
 (.need ((a3 != a4) = false)
 (.need ((a3 != a4) = false)
 (.need ((a3 != a4) = false)
 (.need ((a3 != a4) = false)
 (.need ((b3 != st) = false)
 (.need ((b3 != st) = false)
 (.need ((b3 != st) = false)
 (.need ((b3 != st) = false)
 (.need ((b3 != st) = false)
 (.need ((b3 != st) = false)
 (.need ((b3 != st) = false)
 (.need ((b3 != st) = false)
 (.need ((b3 != st) = false)
 (.need ((b3 != st) = false)
 (.need ((b3 != st) = false)
 (.need ((b3 != st) = false)
 (.need ((b3 != st) = false)
 (.need ((b3 != st) = false)
 (.br (b4 != ap) (.ret (.int .i64 3))
 (.leaf
 (Conf.mk
 (SFrm.mk 56 none none
 [Item.code (cAt Tryz.prog 56 [1, 1, 1, 0]),
 Item.code (cAt Tryz.prog 56 [1, 1, 1, 1])]
 (mkJ 1 [(0, .ptr 0 0)] 0 157))
 [SFrm.mk 24
 (some (opsAt Tryz.prog 24 [1, 1, 0, 0], [4]))
 (some 27)
 [Item.code (cAt Tryz.prog 24 [1, 1, 0, 1]),
 Item.code (cAt Tryz.prog 24 [1, 1, 1])]
 (mkJ 0 [] 0 29)]
 [(0,
 OBlk.cells 68
 [.int .i64 a1, .int .i64 a2,
 .int .i64 a3,
 .int .i64 a4,
 .int .i64 b1,
 .int .i64 b2,
 .int .i64 b3,
 .int .i64 b4, .int .i64 e,
 .int .i64 si, .dat o,
 .int .i64 st,
 .int .i64 ap,
 .dat k])])))))))))))))))))))))))))))))))) := by kernel_rfl

theorem fmC_go : goS Tryz.prog ctFm (fun _ => false) fmS 300 (fmC ⟨⟨a1, a2, a3, a4⟩, ⟨b1, b2, b3, b4⟩, ⟨e, si, o, st, ap⟩, k⟩) =
 Tree.all fun hs =>
 .leaf
 (Conf.mk
 (SFrm.mk 56 none none
 [Item.code (cAt Tryz.prog 56 [1, 1, 1, 1, 0, 0]), Item.code (cAt Tryz.prog 56 [1, 1, 1, 1, 0, 1]),
 Item.code (cAt Tryz.prog 56 [1, 1, 1, 1, 1])]
 (mkJ 1 [(0, .ptr 0 0), (3, .ptr 1 0)] 0 157))
 [SFrm.mk 24 (some (opsAt Tryz.prog 24 [1, 1, 0, 0], [4])) (some 27)
 [Item.code (cAt Tryz.prog 24 [1, 1, 0, 1]), Item.code (cAt Tryz.prog 24 [1, 1, 1])] (mkJ 0 [] 0 29)]
 [(0,
 OBlk.cells 68
 [.int .i64 a1, .int .i64 a2, .int .i64 a3, .int .i64 a4,
 .int .i64 b1, .int .i64 b2, .int .i64 b3, .int .i64 b4,
 .int .i64 e, .int .i64 si, .dat o, .int .i64 st, .int .i64 ap,
 .dat k]),
 (1, OBlk.cells 24 [.dat (D.like (hs 0 0) most)])]) := by kernel_rfl

end
end Go.Proofs.YtllmgnhjljmihaaGreat
end
section
open Go Go.Proofs Sx
namespace Go.Proofs.YtllmgnhjljmihaaGreat
set_option maxRecDepth 100000
set_option maxHeartbeats 0
noncomputable def fmD (x : RlD) (s : D) : Conf := Conf.mk (SFrm.mk 56 none none [Item.code (cAt Tryz.prog 56 [1, 1, 1, 1, 0, 0]), Item.code (cAt Tryz.prog 56 [1, 1, 1, 1, 0, 1]), Item.code (cAt Tryz.prog 56 [1, 1, 1, 1, 1])] (mkJ 1 [(0, .ptr 0 0), (3, .ptr 1 0)] 0 157)) fmK [(0, OBlk.cells 68 (rlCs x)), (1, OBlk.cells 24 [.dat s])]
section
variable (d s o k : D) (b : Nat) (j a1 a2 a3 a4 b1 b2 b3 b4 e si st ap : Int)
theorem fmD_go : goS Tryz.prog ctFm (fun _ => false) fmS 300 (fmD ⟨⟨a1, a2, a3, a4⟩, ⟨b1, b2, b3, b4⟩, ⟨e, si, o, st, ap⟩, k⟩ s) =
 Tree.all fun hs =>
 .br (anyCy (D.to Int s) (D.to Cy k))
 (.need
 (D.Is Cy k ∧ D.len k ≤ 1048576 ∧ (∀ (c : Cy), List.Mem c (D.to Cy k) → CyOk c) ∧ D.Is Int s ∧ D.len s ≤ 1048576)
 (.need (anyCy (D.to Int s) (D.to Cy k) = true)
 (.need (anyCy (D.to Int s) (D.to Cy k) = true)
 (.need (anyCy (D.to Int s) (D.to Cy k) = true)
 (.need (anyCy (D.to Int s) (D.to Cy k) = true)
 (.need (anyCy (D.to Int s) (D.to Cy k) = true)
 (.need (anyCy (D.to Int s) (D.to Cy k) = true)
 (.need (anyCy (D.to Int s) (D.to Cy k) = true)
 (.need (anyCy (D.to Int s) (D.to Cy k) = true)
 (.need (anyCy (D.to Int s) (D.to Cy k) = true)
 (.need (anyCy (D.to Int s) (D.to Cy k) = true)
 (.need (anyCy (D.to Int s) (D.to Cy k) = true)
 (.need (anyCy (D.to Int s) (D.to Cy k) = true)
 (.need (anyCy (D.to Int s) (D.to Cy k) = true)
 (.need (anyCy (D.to Int s) (D.to Cy k) = true)
 (.need (anyCy (D.to Int s) (D.to Cy k) = true)
 (.ret (.int .i64 3))))))))))))))))))
 (.need
 (D.Is Cy k ∧ D.len k ≤ 1048576 ∧ (∀ (c : Cy), List.Mem c (D.to Cy k) → CyOk c) ∧ D.Is Int s ∧ D.len s ≤ 1048576)
 (.need (anyCy (D.to Int s) (D.to Cy k) = false)
 (.need (anyCy (D.to Int s) (D.to Cy k) = false)
 (.need (anyCy (D.to Int s) (D.to Cy k) = false)
 (.need (anyCy (D.to Int s) (D.to Cy k) = false)
 (.need (anyCy (D.to Int s) (D.to Cy k) = false)
 (.need (anyCy (D.to Int s) (D.to Cy k) = false)
 (.need (D.Is Cy k ∧ D.len k ≤ 1048576)
 (.need (anyCy (D.to Int s) (D.to Cy k) = false)
 (.need (anyCy (D.to Int s) (D.to Cy k) = false)
 (.need (anyCy (D.to Int s) (D.to Cy k) = false)
 (.need (anyCy (D.to Int s) (D.to Cy k) = false)
 (.need (anyCy (D.to Int s) (D.to Cy k) = false)
 (.need (anyCy (D.to Int s) (D.to Cy k) = false)
 (.need (anyCy (D.to Int s) (D.to Cy k) = false)
 (.need
 (D.Is Int (D.like (hs 13 0) (List.map Cy.number (D.to Cy k))) ∧
 D.Is Int o ∧ D.len (D.like (hs 13 0) (List.map Cy.number (D.to Cy k))) ≤ 1048576)
 (.need (anyCy (D.to Int s) (D.to Cy k) = false)
 (.need (anyCy (D.to Int s) (D.to Cy k) = false)
 (.br
 (!decide
 (D.to Int (D.like (hs 13 0) (List.map Cy.number (D.to Cy k))) =
 D.to Int o))
 (.ret (.int .i64 3))
 (.leaf
 (Conf.mk
 (SFrm.mk 56 none none
 [Item.code (cAt Tryz.prog 56 [1, 1, 1, 1, 1, 0]),
 Item.code (cAt Tryz.prog 56 [1, 1, 1, 1, 1, 1])]
 (mkJ 1 [(0, .ptr 0 0)] 0 157))
 [SFrm.mk 24 (some (opsAt Tryz.prog 24 [1, 1, 0, 0], [4])) (some 27)
 [Item.code (cAt Tryz.prog 24 [1, 1, 0, 1]),
 Item.code (cAt Tryz.prog 24 [1, 1, 1])]
 (mkJ 0 [] 0 29)]
 [(0,
 OBlk.cells 68
 [.int .i64 a1, .int .i64 a2,
 .int .i64 a3, .int .i64 a4,
 .int .i64 b1, .int .i64 b2,
 .int .i64 b3, .int .i64 b4,
 .int .i64 e, .int .i64 si, .dat o,
 .int .i64 st, .int .i64 ap,
 .dat k])]))))))))))))))))))))) := by kernel_rfl

end
end Go.Proofs.YtllmgnhjljmihaaGreat
end
section
open Go Go.Proofs Sx
namespace Go.Proofs.YtllmgnhjljmihaaGreat
set_option maxRecDepth 100000
set_option maxHeartbeats 0
noncomputable def fmE (x : RlD) : Conf := Conf.mk (SFrm.mk 56 none none [Item.code (cAt Tryz.prog 56 [1, 1, 1, 1, 1, 0]), Item.code (cAt Tryz.prog 56 [1, 1, 1, 1, 1, 1])] (mkJ 1 [(0, .ptr 0 0)] 0 157)) fmK [(0, OBlk.cells 68 (rlCs x))]
noncomputable def ctFmR : Ctrs := [(33, ctrOf (rdNone.sp spMost)), (32, ctrOf ((rdCy.two rdD).sp spCyCk))]
noncomputable def rfmL (x : RlD) (a j : Int) : Conf := Conf.mk (SFrm.mk 68 none none [Item.inLoop (cAt Tryz.prog 68 [1, 1, 1, 1, 0, 1, 0, 0]), Item.inBlock 0, Item.code (cAt Tryz.prog 68 [1, 1, 1, 1, 1])] (mkJ 0 [(1, .ptr 0 0), (3, .int .i64 a), (4, .int .i64 j)] 0 118)) [] [(0, OBlk.cells 29 (rlCs x))]
section
variable (d s o k : D) (b : Nat) (j a a1 a2 a3 a4 b1 b2 b3 b4 e si st ap : Int)
theorem fmE_go : exec Tryz.prog ctFm 300 (fmE ⟨⟨a1, a2, a3, a4⟩, ⟨b1, b2, b3, b4⟩, ⟨e, si, o, st, ap⟩, k⟩) =
 Tree.all fun hs =>
 .need (D.Is Cy k ∧ D.len k ≤ 1048576)
 (.br (Prod.snd (leadsI (D.to Cy k) ap))
 (.br (!decide (Prod.fst (leadsI (D.to Cy k) ap) ≤ a4)) (.ret (.int .i64 3))
 (.ret (.int .i64 0)))
 (.ret (.int .i64 3))) := by kernel_rfl

theorem rfm_in : exec Tryz.prog ctFmR 300 (entry Tryz.prog 68 [.agg [.int .i64 a1, .int .i64 a2, .int .i64 a3, .int .i64 a4, .int .i64 b1, .int .i64 b2, .int .i64 b3, .int .i64 b4, .int .i64 e, .int .i64 si, .dat o, .int .i64 st, .int .i64 ap, .dat k]]) =
 Tree.br (decide (a2 = b2)) (.ret (.lb false))
 (.br (si != b2) (.ret (.lb false))
 (.br (a1 != b1) (.ret (.lb false))
 (.br (a1 != e) (.ret (.lb false))
 (.br (a3 != a4) (.ret (.lb false))
 (.br (b3 != st) (.ret (.lb false))
 (.br (b4 != ap) (.ret (.lb false))
 (.br ((↑(D.len k) : Int) != (↑(D.len o) : Int)) (.ret (.lb false))
 (.leaf
 (Conf.mk
 (SFrm.mk 68 none none
 [Item.inLoop (cAt Tryz.prog 68 [1, 1, 1, 1, 0, 1, 0, 0]), Item.inBlock 0,
 Item.code (cAt Tryz.prog 68 [1, 1, 1, 1, 1])]
 (mkJ 0 [(1, .ptr 0 0), (3, .int .i64 ap), (4, .int .i64 0)] 0 118))
 []
 [(0,
 OBlk.cells 29
 [.int .i64 a1, .int .i64 a2, .int .i64 a3, .int .i64 a4,
 .int .i64 b1, .int .i64 b2, .int .i64 b3, .int .i64 b4,
 .int .i64 e, .int .i64 si, .dat o, .int .i64 st,
 .int .i64 ap, .dat k])]))))))))) := by kernel_rfl

theorem rfm_go : 
 let z1 := (CyD.mk (D.getInt k (Int.toNat j) 0) (D.getInt k (Int.toNat j) 1) (D.getInt k (Int.toNat j) 2) (D.cell k (Int.toNat j) 3) (D.cell k (Int.toNat j) 4))
 exec Tryz.prog ctFmR 300 (unroll (rfmL ⟨⟨a1, a2, a3, a4⟩, ⟨b1, b2, b3, b4⟩, ⟨e, si, o, st, ap⟩, k⟩ a j)) =
 Tree.br (decide (j < (↑(D.len k) : Int))) (.need (0 ≤ j ∧ j < (↑(D.len k) : Int) ∧ D.sz k = 5) (.need (D.HasCells k (Int.toNat j) 0 [FT.int .i64, FT.int .i64, FT.int .i64, FT.slc, FT.slc]) (.all fun hs => .br
 (cyErr (CyD.cy z1) (D.to Int (D.like (hs 1 0) most)) != 0) (.need (CyD.Ok z1 ∧ D.Is Int (D.like (hs 1 0) most) ∧ D.len (D.like (hs 1 0) most) ≤ 1048576) (.need ((cyErr (CyD.cy z1) (D.to Int (D.like (hs 1 0) most)) != 0) = true)
 (.need ((cyErr (CyD.cy z1) (D.to Int (D.like (hs 1 0) most)) != 0) = true) (.need ((cyErr (CyD.cy z1) (D.to Int (D.like (hs 1 0) most)) != 0) = true) (.need ((cyErr (CyD.cy z1) (D.to Int (D.like (hs 1 0) most)) != 0) = true)
 (.need ((cyErr (CyD.cy z1) (D.to Int (D.like (hs 1 0) most)) != 0) = true) (.need ((cyErr (CyD.cy z1) (D.to Int (D.like (hs 1 0) most)) != 0) = true) (.need ((cyErr (CyD.cy z1) (D.to Int (D.like (hs 1 0) most)) != 0) = true)
 (.need ((cyErr (CyD.cy z1) (D.to Int (D.like (hs 1 0) most)) != 0) = true) (.need ((cyErr (CyD.cy z1) (D.to Int (D.like (hs 1 0) most)) != 0) = true) (.need ((cyErr (CyD.cy z1) (D.to Int (D.like (hs 1 0) most)) != 0) = true)
 (.ret (.lb false))))))))))))) (.br (D.getInt k (Int.toNat j) 1 != D.getInt o (Int.toNat j) 0) (.need (CyD.Ok z1 ∧ D.Is Int (D.like (hs 1 0) most) ∧ D.len (D.like (hs 1 0) most) ≤ 1048576) (.need ((cyErr
 (CyD.cy z1) (D.to Int (D.like (hs 1 0) most)) != 0) = false) (.need ((cyErr (CyD.cy z1) (D.to Int (D.like (hs 1 0) most)) != 0) = false) (.need ((cyErr (CyD.cy z1) (D.to Int (D.like (hs 1 0) most)) != 0) = false)
 (.need ((cyErr (CyD.cy z1) (D.to Int (D.like (hs 1 0) most)) != 0) = false) (.need ((cyErr (CyD.cy z1) (D.to Int (D.like (hs 1 0) most)) != 0) = false) (.need ((cyErr (CyD.cy z1) (D.to Int (D.like (hs 1 0) most)) != 0) = false)
 (.need ((cyErr (CyD.cy z1) (D.to Int (D.like (hs 1 0) most)) != 0) = false) (.need (0 ≤ j ∧ j < (↑(D.len o) : Int) ∧ D.sz o = 1) (.need ((cyErr (CyD.cy z1) (D.to Int (D.like (hs 1 0) most)) != 0) = false)
 (.need (D.HasCell o (Int.toNat j) 0 (FT.int .i64)) (.need ((cyErr (CyD.cy z1) (D.to Int (D.like (hs 1 0) most)) != 0) = false) (.need ((cyErr (CyD.cy z1) (D.to Int (D.like (hs 1 0) most)) != 0) = false)
 (.need ((D.getInt k (Int.toNat j) 1 != D.getInt o (Int.toNat j) 0) = true) (.need ((D.getInt k (Int.toNat j) 1 != D.getInt o (Int.toNat j) 0) = true) (.need ((D.getInt k (Int.toNat j) 1 != D.getInt o (Int.toNat j) 0) = true)
 (.need ((D.getInt k (Int.toNat j) 1 != D.getInt o (Int.toNat j) 0) = true) (.need ((D.getInt k (Int.toNat j) 1 != D.getInt o (Int.toNat j) 0) = true) (.ret (.lb false)))))))))))))))))))) (.need (CyD.Ok z1 ∧ D.Is Int
 (D.like (hs 1 0) most) ∧ D.len (D.like (hs 1 0) most) ≤ 1048576) (.need ((cyErr (CyD.cy z1) (D.to Int (D.like (hs 1 0) most)) != 0) = false) (.need ((cyErr (CyD.cy z1) (D.to Int (D.like (hs 1 0) most)) != 0) = false)
 (.need ((cyErr (CyD.cy z1) (D.to Int (D.like (hs 1 0) most)) != 0) = false) (.need ((cyErr (CyD.cy z1) (D.to Int (D.like (hs 1 0) most)) != 0) = false) (.need ((cyErr (CyD.cy z1) (D.to Int (D.like (hs 1 0) most)) != 0) = false)
 (.need ((cyErr (CyD.cy z1) (D.to Int (D.like (hs 1 0) most)) != 0) = false) (.need ((cyErr (CyD.cy z1) (D.to Int (D.like (hs 1 0) most)) != 0) = false) (.need (0 ≤ j ∧ j < (↑(D.len o) : Int) ∧ D.sz o = 1)
 (.need ((cyErr (CyD.cy z1) (D.to Int (D.like (hs 1 0) most)) != 0) = false) (.need (D.HasCell o (Int.toNat j) 0 (FT.int .i64)) (.need ((cyErr (CyD.cy z1) (D.to Int (D.like (hs 1 0) most)) != 0) = false)
 (.need ((cyErr (CyD.cy z1) (D.to Int (D.like (hs 1 0) most)) != 0) = false) (.need ((D.getInt k (Int.toNat j) 1 != D.getInt o (Int.toNat j) 0) = false) (.need ((D.getInt k (Int.toNat j) 1 != D.getInt o
 (Int.toNat j) 0) = false) (.need ((D.getInt k (Int.toNat j) 1 != D.getInt o (Int.toNat j) 0) = false) (.need ((D.getInt k (Int.toNat j) 1 != D.getInt o (Int.toNat j) 0) = false) (.need ((D.getInt k (Int.toNat j) 1 != D.getInt o
 (Int.toNat j) 0) = false) (.br (decide (D.getInt k (Int.toNat j) 0 > a)) (.ret (.lb false)) (.leaf (Conf.mk (SFrm.mk 68 none none [Item.inLoop (cAt Tryz.prog 68 [1, 1, 1, 1, 0, 1, 0, 0]), Item.inBlock 0, Item.code
 (cAt Tryz.prog 68 [1, 1, 1, 1, 1])] (mkJ 0 [(1, .ptr 0 0), (3, .int .i64 (D.getInt k (Int.toNat j) 1)), (4, .int .i64 (IntKind.wrap .i64 (j + 1)))] 0 118)) [] [(0, OBlk.cells 29 [.int .i64 a1, .int .i64 a2, .int .i64 a3, .int .i64 a4, .int .i64 b1, .int .i64 b2, .int .i64 b3, .int .i64 b4, .int .i64 e, .int .i64 si, .dat o, .int .i64 st, .int .i64 ap, .dat k])])))))))))))))))))))))))))
 (.ret (.bool (decide (a ≤ a4)))) := by
 intros; kernel_rfl

end
end Go.Proofs.YtllmgnhjljmihaaGreat
end
