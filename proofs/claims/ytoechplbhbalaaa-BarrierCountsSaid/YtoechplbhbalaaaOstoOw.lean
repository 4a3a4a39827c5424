/- One order of a region is walked; the others come to the same: operations that are apart change places. -/
import Derived.Test.YtoechplbhbalaaaJatoOr
set_option linter.all false
section
namespace Sx
open Go RowKit

section
variable {P : Program} {cs : Ctrs} {ops : Array Oper} {depth : Nat}

theorem calleeOf_congr {ev ev' : Operand → SV} {cl : Call} (h : ∀ x, x ∈ cl.operands → ev x = ev' x) : calleeOf ev cl.callee = calleeOf ev' cl.callee := by
  obtain ⟨callee, args, tys⟩ := cl
  cases callee with
  | value x =>
    simp only [calleeOf]
    rw [h x (by simp [Call.operands])]
  | _ => rfl

theorem runOp_congr {t t' : List SV} {op : Op} (h : ∀ x, x ∈ op.operands → evS t x = evS t' x) (key : Nat) (hs : Nat → D) (m : Mem) :
    runOp P cs t key hs op m = runOp P cs t' key hs op m := by
  unfold runOp
  have h0 : ∀ m key, opr P (evS t) m key op = opr P (evS t') m key op := fun m key => opr_congr h m key
  cases hq : quickOp op with
  | true => simp only [h0]
  | false =>
    simp only
    cases op
    case call cl =>
      have h1 := calleeOf_congr (cl := cl) (ev := evS t) (ev' := evS t') (fun x hx => h x (by simpa [Op.operands] using hx))
      have h2 : cl.args.toList.map (evS t) = cl.args.toList.map (evS t') :=
        List.map_congr_left fun x hx => h x (by simp only [Op.operands, Call.operands, Array.mem_append]; right; simpa using hx)
      simp only [h1, h2, h0]
    all_goals simp only [h0]

theorem keysOp_congr {t t' : List SV} {op : Op} (h : ∀ x, x ∈ op.operands → evS t x = evS t' x) : keysOp t op = keysOp t' op := by
  unfold keysOp
  split
  · rfl
  · rw [List.map_congr_left (g := evS t') fun x hx => h x (by simpa using hx)]

theorem guardD_congr {dec : List (Nat × Bool)} {o : Oper} {t t' : List SV} (h : ∀ k, k ∈ usesOp ops o → t[k]? = t'[k]?) : guardD dec ops o t = guardD dec ops o t' := by
  unfold guardD
  cases hg : o.guard with
  | none => rfl
  | some x =>
    obtain ⟨j, want⟩ := x
    simp only
    cases hd : (ops[j]?).bind (·.dst) with
    | none => rfl
    | some k => simp only; rw [h k (by simp [usesOp, hg, hd])]

theorem uses_eval {o : Oper} {t t' : List SV} (h : ∀ k, k ∈ usesOp ops o → t[k]? = t'[k]?) : ∀ x, x ∈ o.op.operands → evS t x = evS t' x := by
  intro x hx
  refine evS_congr fun k hk => h k ?_
  subst hk
  exact List.mem_append_left _ (List.mem_filterMap.2 ⟨.tmp k, by simpa using hx, rfl⟩)

theorem stepR_congr {dec : List (Nat × Bool)} {hs hs' : Nat → Nat → D} {s s' : List SV × Mem} {i : Nat} {o : Oper} {e : Eff} (ho : ops[i]? = some o) (hh : hs i = hs' i)
    (ht : ∀ k, k ∈ usesOp ops o → s.1[k]? = s'.1[k]?) (h : stepR P cs ops depth dec hs s i = .ok e) (hm : ∀ k, k ∈ e.T → s.2.get k = s'.2.get k) :
    stepR P cs ops depth dec hs' s' i = .ok e := by
  have hev := uses_eval (o := o) ht
  unfold stepR at h ⊢
  simp only [ho] at h ⊢
  rw [← guardD_congr ht]
  split at h
  · cases h
  · cases h
  · exact h
  · rename_i ps hg
    split at h
    · rename_i t x y hop
      unfold pickD at h ⊢
      have h1 : s.1[t]? = s'.1[t]? := ht t (List.mem_append_left _ (List.mem_filterMap.2 ⟨.tmp t, by rw [hop]; simp [Op.operands], rfl⟩))
      rw [hop] at hev
      rw [← h1, ← hev x (by simp [Op.operands]), ← hev y (by simp [Op.operands])]
      exact h
    · rename_i t x j ok hop
      rw [hop] at hev
      have e1 : keysOp s.1 (.lookup t x j ok) = keysOp s'.1 (.lookup t x j ok) := keysOp_congr hev
      split at h
      · rename_i l d hlk
        have e3 : pickM s.2 (keysOp s.1 (.lookup t x j ok)) = pickM s'.2 (keysOp s'.1 (.lookup t x j ok)) := by
          rw [← e1]; refine pickM_congr fun k hk => hm k ?_
          rw [(lookD_ok h).2.1]; exact hk
        rw [← hev x (by simp [Op.operands]), ← hev j (by simp [Op.operands]), ← e3, hlk, ← e1]
        exact h
      · cases h
    · rename_i t a x hop
      rw [hop] at hev
      have e0 : evS s.1 a = evS s'.1 a := hev a (by simp [Op.operands])
      have e0' : evS s.1 x = evS s'.1 x := hev x (by simp [Op.operands])
      rw [← e0, ← e0']
      split at h
      · split at h
        · rename_i vs n ty cs h1 h2 hb
          split at h
          · rename_i hc
            cases h
            rw [← hm _ (by simp), h1, h2, hb]
            exact if_pos hc
          · cases h
        · cases h
      · have e1 : keysOp s.1 (.store t a x) = keysOp s'.1 (.store t a x) := keysOp_congr hev
        have e2 : ∀ m, runOp P cs s.1 (dstKey depth o.dst) (hs i) (.store t a x) m = runOp P cs s'.1 (dstKey depth o.dst) (hs' i) (.store t a x) m := fun m => by rw [hh]; exact runOp_congr hev _ _ _
        split at h
        · rename_i qs v out hr
          cases h
          have e3 : pickM s.2 (keysOp s.1 (.store t a x)) = pickM s'.2 (keysOp s'.1 (.store t a x)) := by rw [← e1]; exact pickM_congr hm
          rw [e2, e3] at hr
          simp only [hr, e1]
        · cases h
    · rename_i t a hop
      rw [hop] at hev
      have e0 : evS s.1 a = evS s'.1 a := hev a (by simp [Op.operands])
      have e1 : keysOp s.1 (.load t a) = keysOp s'.1 (.load t a) := keysOp_congr hev
      have e2 : ∀ m, runOp P cs s.1 (dstKey depth o.dst) (hs i) (.load t a) m = runOp P cs s'.1 (dstKey depth o.dst) (hs' i) (.load t a) m := fun m => by rw [hh]; exact runOp_congr hev _ _ _
      split at h
      · rename_i qs v hr
        cases h
        have e3 : pickM s.2 (keysOp s.1 (.load t a)) = pickM s'.2 (keysOp s'.1 (.load t a)) := by rw [← e1]; exact pickM_congr hm
        rw [e2, e3] at hr
        rw [hr, ← e1, ← e0]
      · cases h
    · rename_i t x j v hop
      rw [hop] at hev
      split at h
      · rename_i K k n hins
        cases h
        obtain ⟨kt, et, es, h1, h2, h3, h4, h5, h6⟩ := insOk_spec hins
        rw [← hev x (by simp [Op.operands]), ← hev j (by simp [Op.operands]), ← hev v (by simp [Op.operands]),
          insOk_of h1 h2 h3 h4 (by rw [← hm K (by simp)]; exact h5) h6]
      · cases h
    · rename_i hnp
      have e1 : keysOp s.1 o.op = keysOp s'.1 o.op := keysOp_congr hev
      have e2 : ∀ m, runOp P cs s.1 (dstKey depth o.dst) (hs i) o.op m = runOp P cs s'.1 (dstKey depth o.dst) (hs' i) o.op m := fun m => by rw [hh]; exact runOp_congr hev _ _ _
      split at h
      · rename_i qs v out hr
        cases h
        have e3 : pickM s.2 (keysOp s.1 o.op) = pickM s'.2 (keysOp s'.1 o.op) := by rw [← e1]; exact pickM_congr hm
        rw [e2, e3] at hr
        simp only [hr, e1]
      · cases h

theorem putS_get {tmps : List SV} {d : Option Tmp} {v : SV} {t : Nat} (h : ∀ k, d = some k → k ≠ t) : (putS tmps d v)[t]? = tmps[t]? := by
  cases d with
  | none => rfl
  | some k => simp only [putS]; rw [List.getElem?_set_ne (h k rfl)]

theorem putS_comm {tmps : List SV} {a b : Option Tmp} {v u : SV} (h : ∀ k, a = some k → b ≠ some k) : putS (putS tmps a v) b u = putS (putS tmps b u) a v := by
  cases a with
  | none => rfl
  | some k =>
    cases b with
    | none => rfl
    | some j =>
      simp only [putS]
      exact List.set_comm _ _ fun e => h k rfl (by rw [e])

/-- What a change leaves as it was. -/
theorem applyR_get {s : List SV × Mem} {i : Nat} {e : Eff} {k : Nat} (h : k ∉ e.wr) : (applyR ops s i e).2.get k = s.2.get k := by
  simp only [applyR, Eff.mem_get, Eff.at_other h]

def usesAt (ops : Array Oper) (i : Nat) : List Nat :=
  match ops[i]? with
  | some o => usesOp ops o
  | none => []

/-- Cells that are apart. -/
def Apart (o n o' n' : Nat) : Prop := o + n ≤ o' ∨ o' + n' ≤ o

/-- They load from, or store into, cells of one block that are apart. -/
def CellApart (ei ej : Eff) : Prop :=
  (∃ K o n o' vs, ei.ld = some (K, o, n) ∧ ej.st = some (K, o', vs) ∧ Apart o n o' vs.length ∧ 0 < n) ∨
  (∃ K o vs o' n', ei.st = some (K, o, vs) ∧ ej.ld = some (K, o', n') ∧ Apart o vs.length o' n' ∧ 0 < n') ∨
  (∃ K o vs o' vs', ei.st = some (K, o, vs) ∧ ej.st = some (K, o', vs') ∧ Apart o vs.length o' vs'.length)

/-- Two operations that do not look at each other's doings (both may put something into one map). -/
structure Indep (ops : Array Oper) (i j : Nat) (ei ej : Eff) : Prop where
  dij : ∀ k, dstOf ops i = some k → k ∉ usesAt ops j ∧ dstOf ops j ≠ some k
  dji : ∀ k, dstOf ops j = some k → k ∉ usesAt ops i
  mem : ((∀ k, k ∈ ei.wr → k ∉ ej.T ∧ k ∉ ej.wr) ∧ (∀ k, k ∈ ej.wr → k ∉ ei.T)) ∨ (∃ K x y, ei.ins = some (K, x) ∧ ej.ins = some (K, y)) ∨ CellApart ei ej

theorem stepR_some {dec : List (Nat × Bool)} {hs : Nat → Nat → D} {s : List SV × Mem} {i : Nat} {e : Eff} (h : stepR P cs ops depth dec hs s i = .ok e) : ∃ o, ops[i]? = some o := by
  unfold stepR at h
  split at h
  · cases h
  · rename_i o ho; exact ⟨o, ho⟩

theorem stepR_frame {dec : List (Nat × Bool)} {hs : Nat → Nat → D} {s : List SV × Mem} {i j : Nat} {ei ej : Eff} (hd : ∀ k, dstOf ops j = some k → k ∉ usesAt ops i)
    (hw : ∀ k, k ∈ ej.wr → k ∉ ei.T) : stepR P cs ops depth dec hs (applyR ops s j ej) i = .ok ei ↔ stepR P cs ops depth dec hs s i = .ok ei := by
  have t1 : ∀ o, ops[i]? = some o → ∀ k, k ∈ usesOp ops o → (applyR ops s j ej).1[k]? = s.1[k]? := by
    intro o ho k hk
    refine putS_get fun q hq e => ?_
    subst e
    exact hd q hq (by simpa [usesAt, ho] using hk)
  have t2 : ∀ k, k ∈ ei.T → (applyR ops s j ej).2.get k = s.2.get k := fun k hk => applyR_get fun hkw => hw k hkw hk
  constructor
  · intro h
    obtain ⟨o, ho⟩ := stepR_some h
    exact stepR_congr ho rfl (t1 o ho) h t2
  · intro h
    obtain ⟨o, ho⟩ := stepR_some h
    exact stepR_congr ho rfl (fun k hk => (t1 o ho k hk).symm) h fun k hk => (t2 k hk).symm

theorem swap_alike {s : List SV × Mem} {i j : Nat} {ei ej : Eff} (hd : ∀ k, dstOf ops i = some k → dstOf ops j ≠ some k) (h : ∀ k o, ej.at k (ei.at k o) = ei.at k (ej.at k o)) :
    Alike (applyR ops (applyR ops s i ei) j ej) (applyR ops (applyR ops s j ej) i ei) := by
  refine ⟨?_, fun k => ?_⟩
  · simp only [applyR]
    exact putS_comm fun k hk => hd k hk
  · simp only [applyR, Eff.mem_get, h]

theorem at_comm {ei ej : Eff} (h : ∀ k, k ∈ ei.wr → k ∉ ej.wr) (k : Nat) (o : Option OBlk) : ej.at k (ei.at k o) = ei.at k (ej.at k o) := by
  by_cases hi : k ∈ ei.wr
  · rw [Eff.at_other (h k hi), Eff.at_other (h k hi)]
  · rw [Eff.at_other hi, Eff.at_other hi]

/-- What is known of an operation that puts something into a map. -/
theorem stepR_ins {dec : List (Nat × Bool)} {hs : Nat → Nat → D} {s : List SV × Mem} {i : Nat} {e : Eff} {K : Nat} {x : IntKind × Int × SV} (h : stepR P cs ops depth dec hs s i = .ok e) (hi : e.ins = some (K, x)) :
    ∃ o t a b c ps, ops[i]? = some o ∧ o.op = .insert t a b c ∧ guardD dec ops o s.1 = .yes ps ∧ insOk P s.2 t (evS s.1 a) (evS s.1 b) = some (K, x.1, x.2.1) ∧
      e = ⟨ps, .undef, [K], none, some (K, x.1, x.2.1, evS s.1 c), none, none⟩ := by
  unfold stepR at h
  split at h
  · cases h
  · rename_i o ho
    split at h
    · cases h
    · cases h
    · cases h; cases hi
    · rename_i ps hg
      split at h
      · unfold pickD at h
        split at h
        · cases h; cases hi
        · split at h
          · cases h; cases hi
          · cases h
        · cases h
      · split at h
        · have := (lookD_ok h).2.2.1.2.1; rw [hi] at this; cases this
        · cases h
      · split at h
        · split at h
          · split at h
            · cases h; cases hi
            · cases h
          · cases h
        · split at h
          · cases h; cases hi
          · cases h
      · split at h
        · cases h; cases hi
        · cases h
      · rename_i t a b c hop
        split at h
        · rename_i K' k n hins
          cases h
          cases hi
          exact ⟨o, t, a, b, c, ps, ho, hop, hg, hins, rfl⟩
        · cases h
      · split at h
        · cases h; cases hi
        · cases h

theorem stepR_of_ins {dec : List (Nat × Bool)} {hs : Nat → Nat → D} {s : List SV × Mem} {i : Nat} {o : Oper} {t : TypeId} {a b c : Operand} {ps : List Prop} {K : Nat} {k : IntKind} {n : Int}
    (ho : ops[i]? = some o) (hop : o.op = .insert t a b c) (hg : guardD dec ops o s.1 = .yes ps) (hins : insOk P s.2 t (evS s.1 a) (evS s.1 b) = some (K, k, n)) :
    stepR P cs ops depth dec hs s i = .ok ⟨ps, .undef, [K], none, some (K, k, n, evS s.1 c), none, none⟩ := by
  unfold stepR
  simp only [ho, hg, hop, hins]

/-- Two that put something into one map change places. -/
theorem ins_swap {dec : List (Nat × Bool)} {hs : Nat → Nat → D} {s : List SV × Mem} {i j : Nat} {ei ej : Eff} {K : Nat} {x y : IntKind × Int × SV}
    (dij : ∀ k, dstOf ops i = some k → k ∉ usesAt ops j) (dji : ∀ k, dstOf ops j = some k → k ∉ usesAt ops i) (hxi : ei.ins = some (K, x)) (hyj : ej.ins = some (K, y))
    (h1 : stepR P cs ops depth dec hs s i = .ok ei) (h2 : stepR P cs ops depth dec hs (applyR ops s i ei) j = .ok ej) :
    stepR P cs ops depth dec hs s j = .ok ej ∧ stepR P cs ops depth dec hs (applyR ops s j ej) i = .ok ei ∧ ∀ k o, ej.at k (ei.at k o) = ei.at k (ej.at k o) := by
  obtain ⟨o1, t1, a1, b1, c1, p1, ho1, hop1, hg1, hi1, he1⟩ := stepR_ins h1 hxi
  obtain ⟨o2, t2, a2, b2, c2, p2, ho2, hop2, hg2, hi2, he2⟩ := stepR_ins h2 hyj
  have u2 : ∀ k, k ∈ usesOp ops o2 → (applyR ops s i ei).1[k]? = s.1[k]? := fun k hk => by
    refine putS_get fun q hq e => ?_
    subst e
    exact dij q hq (by simpa [usesAt, ho2] using hk)
  have u1 : ∀ k, k ∈ usesOp ops o1 → (applyR ops s j ej).1[k]? = s.1[k]? := fun k hk => by
    refine putS_get fun q hq e => ?_
    subst e
    exact dji q hq (by simpa [usesAt, ho1] using hk)
  have v2 := uses_eval (o := o2) u2
  have v1 := uses_eval (o := o1) u1
  rw [hop2] at v2
  rw [hop1] at v1
  rw [guardD_congr u2] at hg2
  rw [v2 a2 (by simp [Op.operands]), v2 b2 (by simp [Op.operands])] at hi2
  rw [v2 c2 (by simp [Op.operands])] at he2
  obtain ⟨kt1, et1, es1, q1, q2, q3, q4, q5, q6⟩ := insOk_spec hi1
  obtain ⟨kt2, et2, es2, r1, r2, r3, r4, r5, r6⟩ := insOk_spec hi2
  have hmem : (applyR ops s i ei).2.get K = some (.map (insE x.1 x.2.1 (evS s.1 c1) es1)) := by
    simp only [applyR, Eff.mem_get, Eff.at, he1, if_true, q5, Option.map_some, insO]
  rw [hmem] at r5
  cases r5
  obtain ⟨⟨w1, w2⟩, w3⟩ := newK_ins.1 r6
  have s2 : stepR P cs ops depth dec hs s j = .ok ej := by
    rw [he2]
    exact stepR_of_ins ho2 hop2 hg2 (insOk_of r1 r2 r3 r4 q5 w3)
  have hmem2 : (applyR ops s j ej).2.get K = some (.map (insE y.1 y.2.1 (evS s.1 c2) es1)) := by
    simp only [applyR, Eff.mem_get, Eff.at, he2, if_true, q5, Option.map_some, insO]
  refine ⟨s2, ?_, fun k o => ?_⟩
  · rw [he1, ← v1 c1 (by simp [Op.operands])]
    refine stepR_of_ins ho1 hop1 (by rw [guardD_congr u1]; exact hg1) (insOk_of q1 q2 ?_ ?_ hmem2 (newK_ins.2 ⟨⟨w1.symm, Ne.symm w2⟩, q6⟩))
    · rw [v1 a1 (by simp [Op.operands])]; exact q3
    · rw [v1 b1 (by simp [Op.operands])]; exact q4
  · simp only [Eff.at, he1, he2]
    split
    · cases o with
      | none => rfl
      | some ob =>
        cases ob with
        | map es => simp only [Option.map_some, insO]; rw [insE_comm w2]
        | _ => rfl
    · rfl

/-- What is known of a store. -/
theorem stepR_st {dec : List (Nat × Bool)} {hs : Nat → Nat → D} {s : List SV × Mem} {i : Nat} {e : Eff} {K off : Nat} {vs : List SV} (h : stepR P cs ops depth dec hs s i = .ok e) (hi : e.st = some (K, off, vs)) :
    ∃ o t a x ps n ty cs', ops[i]? = some o ∧ o.op = .store t a x ∧ guardD dec ops o s.1 = .yes ps ∧ evS s.1 a = .ptr K off ∧ (evS s.1 x).cells? = some vs ∧ sizeT P t = some n ∧
      s.2.get K = some (.cells ty cs') ∧ (vs.length = n ∧ off + n ≤ cs'.length ∧ vs.all SV.one = true) ∧ e = ⟨ps, .undef, [K], none, none, some (K, off, vs), none⟩ := by
  unfold stepR at h
  split at h
  · cases h
  · rename_i o ho
    split at h
    · cases h
    · cases h
    · cases h; cases hi
    · rename_i ps hg
      split at h
      · unfold pickD at h
        split at h
        · cases h; cases hi
        · split at h
          · cases h; cases hi
          · cases h
        · cases h
      · split at h
        · have := (lookD_ok h).2.2.1.2.2; rw [hi] at this; cases this
        · cases h
      · rename_i t a x hop
        split at h
        · rename_i K' off' ha
          split at h
          · rename_i vs' n ty cs' h1 h2 h3
            split at h
            · rename_i hc
              cases h
              cases hi
              exact ⟨o, t, a, x, ps, n, ty, cs', ho, hop, hg, ha, h1, h2, h3, hc, rfl⟩
            · cases h
          · cases h
        · split at h
          · cases h; cases hi
          · cases h
      · split at h
        · cases h; cases hi
        · cases h
      · split at h
        · cases h; cases hi
        · cases h
      · split at h
        · cases h; cases hi
        · cases h

theorem stepR_of_st {dec : List (Nat × Bool)} {hs : Nat → Nat → D} {s : List SV × Mem} {i : Nat} {o : Oper} {t : TypeId} {a x : Operand} {ps : List Prop} {K off n : Nat} {vs : List SV} {ty : TypeId} {cs' : List SV}
    (ho : ops[i]? = some o) (hop : o.op = .store t a x) (hg : guardD dec ops o s.1 = .yes ps) (ha : evS s.1 a = .ptr K off) (hx : (evS s.1 x).cells? = some vs) (hn : sizeT P t = some n)
    (hm : s.2.get K = some (.cells ty cs')) (hc : vs.length = n ∧ off + n ≤ cs'.length ∧ vs.all SV.one = true) : stepR P cs ops depth dec hs s i = .ok ⟨ps, .undef, [K], none, none, some (K, off, vs), none⟩ := by
  unfold stepR
  simp only [ho, hg, hop, ha, hx, hn, hm]
  rw [if_pos hc]

/-- What is known of a load. -/
theorem stepR_ld {dec : List (Nat × Bool)} {hs : Nat → Nat → D} {s : List SV × Mem} {i : Nat} {e : Eff} {K off n : Nat} (h : stepR P cs ops depth dec hs s i = .ok e) (hi : e.ld = some (K, off, n)) :
    ∃ o t a ps qs v ty cs', ops[i]? = some o ∧ o.op = .load t a ∧ guardD dec ops o s.1 = .yes ps ∧ evS s.1 a = .ptr K off ∧ sizeT P t = some n ∧ s.2.get K = some (.cells ty cs') ∧
      (∃ b, aggT P t = some b ∧ qs = [] ∧ match b with
        | true => off + n ≤ cs'.length ∧ v = .agg ((cs'.drop off).take n)
        | false => cs'[off]? = some v) ∧ e = ⟨ps ++ qs, v, [K], none, none, none, some (K, off, n)⟩ := by
  unfold stepR at h
  split at h
  · cases h
  · rename_i o ho
    split at h
    · cases h
    · cases h
    · cases h; cases hi
    · rename_i ps hg
      split at h
      · unfold pickD at h
        split at h
        · cases h; cases hi
        · split at h
          · cases h; cases hi
          · cases h
        · cases h
      · split at h
        · have := lookD_ld h; rw [hi] at this; cases this
        · cases h
      · split at h
        · split at h
          · split at h
            · cases h; cases hi
            · cases h
          · cases h
        · split at h
          · cases h; cases hi
          · cases h
      · rename_i t a hop
        split at h
        · rename_i qs v hr
          cases h
          simp only at hi
          split at hi
          · rename_i K' off' n' ha hn
            cases hi
            have hT : keysOp s.1 (.load t a) = [K] := by simp [keysOp, memless, Op.operands, SV.keysL, ha, SV.keys, addNs, addN]
            rw [hT] at hr
            simp only [runOp, quickOp, opr, ha] at hr
            cases hg2 : s.2.get K with
            | none => simp [pickM, hg2, loadR, Mem.get] at hr
            | some ob =>
              cases ob with
              | cells ty cs' =>
                refine ⟨o, t, a, ps, qs, v, ty, cs', ho, hop, hg, ha, hn, rfl, ?_, by rw [hT]⟩
                simp only [pickM, List.filterMap_cons, hg2, Option.map_some, List.filterMap_nil, loadR, Mem.get, beq_self_eq_true, if_true, hn] at hr
                cases hb : aggT P t with
                | none => simp [hb] at hr
                | some b =>
                  refine ⟨b, rfl, ?_⟩
                  cases b with
                  | true =>
                    simp only [hb] at hr
                    split at hr
                    · rename_i ps' v' m' he
                      split at he
                      · rename_i qs' u hv
                        cases he
                        split at hv
                        · rename_i hle
                          cases hv; cases hr
                          exact ⟨rfl, hle, rfl⟩
                        · cases hv
                      · cases he
                    · cases hr
                  | false =>
                    simp only [hb] at hr
                    split at hr
                    · rename_i ps' v' m' he
                      split at he
                      · rename_i qs' u hv
                        cases he
                        split at hv
                        · rename_i z hz
                          cases hv; cases hr
                          exact ⟨rfl, hz⟩
                        · cases hv
                      · cases he
                    · cases hr
              | _ => simp [pickM, hg2, loadR, Mem.get] at hr
          · cases hi
        · cases h
      · split at h
        · cases h; cases hi
        · cases h
      · split at h
        · cases h; cases hi
        · cases h

theorem stepR_of_ld {dec : List (Nat × Bool)} {hs : Nat → Nat → D} {s : List SV × Mem} {i : Nat} {o : Oper} {t : TypeId} {a : Operand} {ps : List Prop} {K off n : Nat} {v : SV} {ty : TypeId} {cs' : List SV} {b : Bool}
    (ho : ops[i]? = some o) (hop : o.op = .load t a) (hg : guardD dec ops o s.1 = .yes ps) (ha : evS s.1 a = .ptr K off) (hn : sizeT P t = some n)
    (hm : s.2.get K = some (.cells ty cs')) (hb : aggT P t = some b) (hv : match b with
        | true => off + n ≤ cs'.length ∧ v = .agg ((cs'.drop off).take n)
        | false => cs'[off]? = some v) : stepR P cs ops depth dec hs s i = .ok ⟨ps ++ [], v, [K], none, none, none, some (K, off, n)⟩ := by
  have hT : keysOp s.1 (.load t a) = [K] := by simp [keysOp, memless, Op.operands, SV.keysL, ha, SV.keys, addNs, addN]
  have hr : runOp P cs s.1 (dstKey depth o.dst) (hs i) (.load t a) (pickM s.2 [K]) = some ([], v, none) := by
    simp only [runOp, quickOp, opr, ha, pickM, List.filterMap_cons, hm, Option.map_some, List.filterMap_nil, loadR, Mem.get, beq_self_eq_true, if_true, hn, hb]
    cases b with
    | true => simp only at hv; simp only [hv.1, if_true, hv.2]
    | false => simp only at hv; simp only [hv]
  unfold stepR
  simp only [ho, hg, hop, hT, hr, ha, hn]

/-- Cells apart from a store are as they were. -/
theorem splice_apart {cs vs : List SV} {o' : Nat} (hle : o' + vs.length ≤ cs.length) :
    (cs.take o' ++ vs ++ cs.drop (o' + vs.length)).length = cs.length ∧ ∀ k, (k < o' ∨ o' + vs.length ≤ k) → (cs.take o' ++ vs ++ cs.drop (o' + vs.length))[k]? = cs[k]? := by
  refine ⟨by simp; omega, fun k hk => ?_⟩
  rw [splice_get _ _ _ _ _ (by omega)]
  rcases hk with hk | hk
  · rw [if_pos hk]
  · rw [if_neg (by omega), if_neg (by omega)]
    congr 1; omega

theorem range_same {cs cs' : List SV} {off n : Nat} (h : ∀ k, off ≤ k → k < off + n → cs'[k]? = cs[k]?) : (cs'.drop off).take n = (cs.drop off).take n := by
  apply List.ext_getElem?
  intro k
  rw [List.getElem?_take, List.getElem?_take]
  split
  · rw [List.getElem?_drop, List.getElem?_drop]
    exact h _ (by omega) (by omega)
  · rfl

/-- A load and a store of cells that are apart. -/
theorem ld_st {dec : List (Nat × Bool)} {hs : Nat → Nat → D} {s : List SV × Mem} {i j : Nat} {ei ej : Eff} {K o n o' : Nat} {vs : List SV} (dji : ∀ k, dstOf ops j = some k → k ∉ usesAt ops i)
    (hi : ei.ld = some (K, o, n)) (hj : ej.st = some (K, o', vs)) (hap : Apart o n o' vs.length) (hn : 0 < n) {ty : TypeId} {cs' : List SV} (hm : s.2.get K = some (.cells ty cs')) (hle : o' + vs.length ≤ cs'.length) :
    stepR P cs ops depth dec hs s i = .ok ei ↔ stepR P cs ops depth dec hs (applyR ops s j ej) i = .ok ei := by
  have hm2 : (applyR ops s j ej).2.get K = some (.cells ty (cs'.take o' ++ vs ++ cs'.drop (o' + vs.length))) := by
    simp only [applyR, Eff.mem_get, Eff.at, hj, if_true, hm, Option.map_some, updC]
  obtain ⟨l1, l2⟩ := splice_apart hle
  have same : ∀ k, o ≤ k → k < o + n → (cs'.take o' ++ vs ++ cs'.drop (o' + vs.length))[k]? = cs'[k]? := fun k h1 h2 => l2 k (by rcases hap with h | h <;> omega)
  have u : ∀ q, ops[i]? = some q → ∀ k, k ∈ usesOp ops q → (applyR ops s j ej).1[k]? = s.1[k]? := fun q hq k hk => by
    refine putS_get fun z hz e => ?_
    subst e
    exact dji z hz (by simpa [usesAt, hq] using hk)
  constructor
  · intro h
    obtain ⟨q, t, a, ps, qs, v, ty', cs2, ho, hop, hg, ha, hsz, hm', ⟨b, hb, rfl, hv⟩, he⟩ := stepR_ld h hi
    rw [hm] at hm'
    cases hm'
    rw [he]
    have uq := u q ho
    have ue := uses_eval (o := q) uq
    rw [hop] at ue
    refine stepR_of_ld ho hop (by rw [guardD_congr uq]; exact hg) (by rw [ue a (by simp [Op.operands])]; exact ha) hsz hm2 hb ?_
    cases b with
    | true => exact ⟨by rw [l1]; exact hv.1, by rw [range_same same]; exact hv.2⟩
    | false => simp only at hv ⊢; rw [same o (Nat.le_refl _) (by omega)]; exact hv
  · intro h
    obtain ⟨q, t, a, ps, qs, v, ty', cs2, ho, hop, hg, ha, hsz, hm', ⟨b, hb, rfl, hv⟩, he⟩ := stepR_ld h hi
    rw [hm2] at hm'
    cases hm'
    rw [he]
    have uq := u q ho
    have ue := uses_eval (o := q) uq
    rw [hop] at ue
    refine stepR_of_ld ho hop (by rw [← guardD_congr uq]; exact hg) (by rw [← ue a (by simp [Op.operands])]; exact ha) hsz hm hb ?_
    cases b with
    | true => exact ⟨by have := hv.1; rw [l1] at this; exact this, by rw [← range_same same]; exact hv.2⟩
    | false => simp only at hv ⊢; rw [← same o (Nat.le_refl _) (by omega)]; exact hv

/-- Two stores into cells that are apart. -/
theorem updC_comm {o o' : Nat} {vs vs' : List SV} {ty : TypeId} {cs : List SV} (h : Apart o vs.length o' vs'.length) (h1 : o + vs.length ≤ cs.length) (h2 : o' + vs'.length ≤ cs.length) :
    updC o' vs' (updC o vs (.cells ty cs)) = updC o vs (updC o' vs' (.cells ty cs)) := by
  obtain ⟨a1, a2⟩ := splice_apart h1
  obtain ⟨b1, b2⟩ := splice_apart h2
  simp only [updC]
  congr 1
  apply List.ext_getElem?
  intro k
  have sp : ∀ (l : List SV) (q : Nat) (us : List SV), q + us.length ≤ l.length → (l.take q ++ us ++ l.drop (q + us.length))[k]? = if k < q then l[k]? else if k < q + us.length then us[k - q]? else l[k]? := by
    intro l q us hl
    rw [splice_get _ _ _ _ _ (by omega)]
    split
    · rfl
    · split
      · rfl
      · rw [show k - (q + us.length) + (q + us.length) = k from by omega]
  rw [sp (cs.take o ++ vs ++ cs.drop (o + vs.length)) o' vs' (by rw [a1]; exact h2), sp (cs.take o' ++ vs' ++ cs.drop (o' + vs'.length)) o vs (by rw [b1]; exact h1), sp cs o vs h1, sp cs o' vs' h2]
  rcases h with h | h
  · by_cases c1 : k < o <;> by_cases c2 : k < o + vs.length <;> by_cases c3 : k < o' <;> by_cases c4 : k < o' + vs'.length <;> simp only [c1, c2, c3, c4, if_true, if_false] <;> omega
  · by_cases c1 : k < o <;> by_cases c2 : k < o + vs.length <;> by_cases c3 : k < o' <;> by_cases c4 : k < o' + vs'.length <;> simp only [c1, c2, c3, c4, if_true, if_false] <;> omega

theorem st_swap {dec : List (Nat × Bool)} {hs : Nat → Nat → D} {s : List SV × Mem} {i j : Nat} {ei ej : Eff} {K o o' : Nat} {vs vs' : List SV}
    (dij : ∀ k, dstOf ops i = some k → k ∉ usesAt ops j) (dji : ∀ k, dstOf ops j = some k → k ∉ usesAt ops i) (hi : ei.st = some (K, o, vs)) (hj : ej.st = some (K, o', vs')) (hap : Apart o vs.length o' vs'.length)
    (h1 : stepR P cs ops depth dec hs s i = .ok ei) (h2 : stepR P cs ops depth dec hs (applyR ops s i ei) j = .ok ej) :
    stepR P cs ops depth dec hs s j = .ok ej ∧ stepR P cs ops depth dec hs (applyR ops s j ej) i = .ok ei ∧ Alike (applyR ops (applyR ops s i ei) j ej) (applyR ops (applyR ops s j ej) i ei) := by
  obtain ⟨p, t, a, x, ps, n, ty, cs1, ho, hop, hg, ha, hx, hn, hm, hc, he⟩ := stepR_st h1 hi
  obtain ⟨p', t', a', x', ps', n', ty', cs2, ho', hop', hg', ha', hx', hn', hm', hc', he'⟩ := stepR_st h2 hj
  have hm2 : (applyR ops s i ei).2.get K = some (.cells ty (cs1.take o ++ vs ++ cs1.drop (o + vs.length))) := by
    simp only [applyR, Eff.mem_get, Eff.at, hi, if_true, hm, Option.map_some, updC]
  rw [hm2] at hm'
  cases hm'
  obtain ⟨l1, _⟩ := splice_apart (cs := cs1) (vs := vs) (o' := o) (by rw [hc.1]; exact hc.2.1)
  have u' : ∀ k, k ∈ usesOp ops p' → (applyR ops s i ei).1[k]? = s.1[k]? := fun k hk => by
    refine putS_get fun z hz e => ?_
    subst e
    exact dij z hz (by simpa [usesAt, ho'] using hk)
  have u : ∀ k, k ∈ usesOp ops p → (applyR ops s j ej).1[k]? = s.1[k]? := fun k hk => by
    refine putS_get fun z hz e => ?_
    subst e
    exact dji z hz (by simpa [usesAt, ho] using hk)
  have ue' := uses_eval (o := p') u'
  have ue := uses_eval (o := p) u
  rw [hop'] at ue'
  rw [hop] at ue
  have hle' : o' + n' ≤ cs1.length := by have := hc'.2.1; rw [l1] at this; exact this
  have s2 : stepR P cs ops depth dec hs s j = .ok ej := by
    rw [he']
    exact stepR_of_st ho' hop' (by rw [← guardD_congr u']; exact hg') (by rw [← ue' a' (by simp [Op.operands])]; exact ha') (by rw [← ue' x' (by simp [Op.operands])]; exact hx') hn' hm ⟨hc'.1, hle', hc'.2.2⟩
  obtain ⟨k1, _⟩ := splice_apart (cs := cs1) (vs := vs') (o' := o') (by rw [hc'.1]; exact hle')
  have hm3 : (applyR ops s j ej).2.get K = some (.cells ty (cs1.take o' ++ vs' ++ cs1.drop (o' + vs'.length))) := by
    simp only [applyR, Eff.mem_get, Eff.at, hj, if_true, hm, Option.map_some, updC]
  refine ⟨s2, ?_, ?_, fun k => ?_⟩
  · rw [he]
    exact stepR_of_st ho hop (by rw [guardD_congr u]; exact hg) (by rw [ue a (by simp [Op.operands])]; exact ha) (by rw [ue x (by simp [Op.operands])]; exact hx) hn hm3 ⟨hc.1, by rw [k1]; exact hc.2.1, hc.2.2⟩
  · simp only [applyR]
    rw [he, he']
    have d1 : ∀ (l : List SV) (d : Option Tmp), putS (putS l (dstOf ops i) .undef) (dstOf ops j) .undef = putS (putS l (dstOf ops j) .undef) (dstOf ops i) .undef := by
      intro l _
      cases dstOf ops i with
      | none => rfl
      | some q =>
        cases dstOf ops j with
        | none => rfl
        | some z =>
          simp only [putS]
          by_cases hqz : q = z
          · subst hqz; rfl
          · exact List.set_comm _ _ hqz
    exact d1 _ none
  · simp only [applyR, Eff.mem_get, Eff.at, hi, hj]
    split
    · rename_i hk
      subst hk
      rw [hm]
      simp only [Option.map_some]
      rw [updC_comm hap (by rw [hc.1]; exact hc.2.1) (by rw [hc'.1]; exact hle')]
    · rfl

/-- A list of operations goes as the records say. -/
def Goes (P : Program) (cs : Ctrs) (ops : Array Oper) (depth : Nat) (dec : List (Nat × Bool)) (hs : Nat → Nat → D) (r : Nat → Eff) : List Nat → List SV × Mem → Prop
  | [], _ => True
  | i :: l, s => stepR P cs ops depth dec hs s i = .ok (r i) ∧ Goes P cs ops depth dec hs r l (applyR ops s i (r i))

def allR (ops : Array Oper) (r : Nat → Eff) : List Nat → List SV × Mem → List SV × Mem
  | [], s => s
  | i :: l, s => allR ops r l (applyR ops s i (r i))

theorem allR_append {r : Nat → Eff} : ∀ {l l' : List Nat} {s : List SV × Mem}, allR ops r (l ++ l') s = allR ops r l' (allR ops r l s)
  | [], _, _ => rfl
  | i :: l, l', s => by simp only [List.cons_append, allR]; exact allR_append

theorem goes_append {dec : List (Nat × Bool)} {hs : Nat → Nat → D} {r : Nat → Eff} : ∀ {l l' : List Nat} {s : List SV × Mem},
    Goes P cs ops depth dec hs r (l ++ l') s ↔ Goes P cs ops depth dec hs r l s ∧ Goes P cs ops depth dec hs r l' (allR ops r l s)
  | [], _, _ => by simp [Goes, allR]
  | i :: l, l', s => by simp only [List.cons_append, Goes, allR, goes_append (l := l), and_assoc]

theorem allR_alike {r : Nat → Eff} : ∀ {l : List Nat} {s t : List SV × Mem}, Alike s t → Alike (allR ops r l s) (allR ops r l t)
  | [], _, _, h => h
  | i :: l, s, t, h => allR_alike (l := l) (applyR_alike h)

theorem goes_alike {dec : List (Nat × Bool)} {hs : Nat → Nat → D} {r : Nat → Eff} : ∀ {l : List Nat} {s t : List SV × Mem}, Alike s t → Goes P cs ops depth dec hs r l s → Goes P cs ops depth dec hs r l t
  | [], _, _, _, _ => trivial
  | i :: l, s, t, h, ⟨h1, h2⟩ => by
    obtain ⟨o, ho⟩ := stepR_some h1
    exact ⟨stepR_congr ho rfl (fun k _ => by rw [h.1]) h1 fun k _ => h.2 k, goes_alike (applyR_alike h) h2⟩

/-- Two neighbours change places. -/
theorem goes_swap {dec : List (Nat × Bool)} {hs : Nat → Nat → D} {r : Nat → Eff} {i j : Nat} {l : List Nat} {s : List SV × Mem} (h : Indep ops i j (r i) (r j))
    (hg : Goes P cs ops depth dec hs r (i :: j :: l) s) : Goes P cs ops depth dec hs r (j :: i :: l) s ∧ Alike (allR ops r (i :: j :: l) s) (allR ops r (j :: i :: l) s) := by
  obtain ⟨h1, h2, h3⟩ := hg
  obtain ⟨dij, dji, hm⟩ := h
  rcases hm with ⟨wij, wji⟩ | ⟨K, x, y, hx, hy⟩ | hcell
  · have hsw := swap_alike (ops := ops) (s := s) (i := i) (j := j) (ei := r i) (ej := r j) (fun k hk => (dij k hk).2) (at_comm fun k hk => (wij k hk).2)
    exact ⟨⟨(stepR_frame (fun k hk => (dij k hk).1) (fun k hk => (wij k hk).1)).1 h2, (stepR_frame dji wji).2 h1, goes_alike hsw h3⟩, allR_alike hsw⟩
  · obtain ⟨s2, s1, hc⟩ := ins_swap (fun k hk => (dij k hk).1) dji hx hy h1 h2
    have hsw := swap_alike (ops := ops) (s := s) (i := i) (j := j) (ei := r i) (ej := r j) (fun k hk => (dij k hk).2) hc
    exact ⟨⟨s2, s1, goes_alike hsw h3⟩, allR_alike hsw⟩
  · have quiet : ∀ {e : Eff} {s : List SV × Mem} {i : Nat} {K o n : Nat}, stepR P cs ops depth dec hs s i = .ok e → e.ld = some (K, o, n) → e.wr = [] := fun h hl => by
      obtain ⟨_, _, _, _, _, _, _, _, _, _, _, _, _, _, _, he⟩ := stepR_ld h hl
      rw [he]; rfl
    rcases hcell with ⟨K, o, n, o', vs, hl, hst, hap, hn⟩ | ⟨K, o, vs, o', n', hst, hl, hap, hn⟩ | ⟨K, o, vs, o', vs', hst, hst', hap⟩
    · have hw := quiet h1 hl
      have s2 : stepR P cs ops depth dec hs s j = .ok (r j) := (stepR_frame (fun k hk => (dij k hk).1) (fun k hk => by rw [hw] at hk; cases hk)).1 h2
      obtain ⟨_, _, _, _, _, n2, ty, cs', _, _, _, _, _, _, hm, hc, _⟩ := stepR_st s2 hst
      have s1 := (ld_st (cs := cs) (dec := dec) (hs := hs) dji hl hst hap hn hm (by rw [hc.1]; exact hc.2.1)).1 h1
      have hsw := swap_alike (ops := ops) (s := s) (i := i) (j := j) (ei := r i) (ej := r j) (fun k hk => (dij k hk).2) (at_comm fun k hk => by rw [hw] at hk; cases hk)
      exact ⟨⟨s2, s1, goes_alike hsw h3⟩, allR_alike hsw⟩
    · obtain ⟨_, _, _, _, _, n2, ty, cs', _, _, _, _, _, _, hm, hc, _⟩ := stepR_st h1 hst
      have hap' : Apart o' n' o vs.length := hap.symm
      have s2 := (ld_st (cs := cs) (dec := dec) (hs := hs) (s := s) (i := j) (j := i) (fun k hk => (dij k hk).1) hl hst hap' hn hm (by rw [hc.1]; exact hc.2.1)).2 h2
      have hw := quiet s2 hl
      have s1 : stepR P cs ops depth dec hs (applyR ops s j (r j)) i = .ok (r i) := (stepR_frame dji (fun k hk => by rw [hw] at hk; cases hk)).2 h1
      have hsw := swap_alike (ops := ops) (s := s) (i := i) (j := j) (ei := r i) (ej := r j) (fun k hk => (dij k hk).2) (at_comm fun k _ hk => by rw [hw] at hk; cases hk)
      exact ⟨⟨s2, s1, goes_alike hsw h3⟩, allR_alike hsw⟩
    · obtain ⟨s2, s1, hsw⟩ := st_swap (fun k hk => (dij k hk).1) dji hst hst' hap h1 h2
      exact ⟨⟨s2, s1, goes_alike hsw h3⟩, allR_alike hsw⟩

/-- One goes ahead of a whole list. -/
theorem goes_front {dec : List (Nat × Bool)} {hs : Nat → Nat → D} {r : Nat → Eff} {i : Nat} {b : List Nat} : ∀ {a : List Nat} {s : List SV × Mem}, (∀ x, x ∈ a → Indep ops x i (r x) (r i)) →
    Goes P cs ops depth dec hs r (a ++ i :: b) s → Goes P cs ops depth dec hs r (i :: (a ++ b)) s ∧ Alike (allR ops r (a ++ i :: b) s) (allR ops r (i :: (a ++ b)) s)
  | [], s, _, h => ⟨h, Alike.refl _⟩
  | x :: a, s, hx, h => by
    obtain ⟨h1, h2⟩ := h
    obtain ⟨g1, g2⟩ := goes_front (a := a) (fun y hy => hx y (List.mem_cons_of_mem _ hy)) h2
    obtain ⟨k1, k2⟩ := goes_swap (l := a ++ b) (hx x List.mem_cons_self) (s := s) ⟨h1, g1⟩
    exact ⟨k1, g2.trans k2⟩

/-! ### The orders that a region may take -/

def predsOf (ops : Array Oper) (i : Nat) : List Nat :=
  match ops[i]? with
  | some o => (o.after.toList.filter (Region.binds .any)).map (·.on)
  | none => []

/-- A beginning of an order. -/
inductive Begun (ops : Array Oper) : List Nat → Prop
  | nil : Begun ops []
  | snoc {l : List Nat} {i : Nat} (h : Begun ops l) (hi : i ∉ l) (hlt : i < ops.size) (hp : ∀ j, j ∈ predsOf ops i → j ∈ l) : Begun ops (l ++ [i])

theorem Begun.closed {l : List Nat} (h : Begun ops l) : ∀ i, i ∈ l → ∀ j, j ∈ predsOf ops i → j ∈ l := by
  induction h with
  | nil => intro i hi; cases hi
  | snoc h hi hlt hp ih =>
    intro k hk j hj
    rcases List.mem_append.1 hk with hk | hk
    · exact List.mem_append_left _ (ih k hk j hj)
    · rw [List.mem_singleton.1 hk] at hj
      exact List.mem_append_left _ (hp j hj)

/-- What has to come before, all of it: the bits. -/
def maskOf (acc : List Nat) (o : Oper) : Nat := o.after.toList.foldr (fun e s => if Region.binds .any e then (2 ^ e.on ||| acc.getD e.on 0) ||| s else s) 0

def masks : List Oper → List Nat → List Nat
  | [], acc => acc
  | o :: r, acc => masks r (acc ++ [maskOf acc o])

theorem maskOf_bit {acc : List Nat} {o : Oper} {j : Nat} (h : (maskOf acc o).testBit j = true) :
    ∃ e, e ∈ o.after.toList ∧ Region.binds .any e = true ∧ (j = e.on ∨ (acc.getD e.on 0).testBit j = true) := by
  unfold maskOf at h
  generalize o.after.toList = es at h
  induction es with
  | nil => simp at h
  | cons e r ih =>
    simp only [List.foldr_cons] at h
    split at h
    · rename_i hb
      simp only [Nat.testBit_or, Bool.or_eq_true, Nat.testBit_two_pow, decide_eq_true_eq] at h
      rcases h with (h | h) | h
      · exact ⟨e, List.mem_cons_self, hb, .inl h.symm⟩
      · exact ⟨e, List.mem_cons_self, hb, .inr h⟩
      · obtain ⟨e', h1, h2⟩ := ih h; exact ⟨e', List.mem_cons_of_mem _ h1, h2⟩
    · obtain ⟨e', h1, h2⟩ := ih h; exact ⟨e', List.mem_cons_of_mem _ h1, h2⟩

/-- The table is right: under a beginning that a thing may follow, all that its bits say has come up. -/
def TableOk (ops : Array Oper) (acc : List Nat) : Prop :=
  ∀ i, i < acc.length → ∀ l, Begun ops l → (∀ j, j ∈ predsOf ops i → j ∈ l) → ∀ j, (acc.getD i 0).testBit j = true → j ∈ l

theorem masks_ok : ∀ {r : List Oper} {acc : List Nat}, (∀ k, r[k]? = ops[acc.length + k]?) → TableOk ops acc → TableOk ops (masks r acc)
  | [], acc, _, h => h
  | o :: r, acc, hr, h => by
    have h0 : ops[acc.length]? = some o := by have := hr 0; simpa using this.symm
    refine masks_ok (r := r) (acc := acc ++ [maskOf acc o]) (fun k => ?_) ?_
    · have := hr (k + 1)
      simp only [List.getElem?_cons_succ] at this
      rw [this]
      simp only [List.length_append, List.length_singleton]
      congr 1; omega
    · intro i hi l hl hp j hj
      simp only [List.length_append, List.length_singleton] at hi
      by_cases hlt : i < acc.length
      · rw [List.getD_eq_getElem?_getD, List.getElem?_append_left hlt, ← List.getD_eq_getElem?_getD] at hj
        exact h i hlt l hl hp j hj
      · have : i = acc.length := by omega
        subst this
        rw [List.getD_eq_getElem?_getD, List.getElem?_append_right (Nat.le_refl _)] at hj
        simp only [Nat.sub_self, List.getElem?_cons_zero, Option.getD_some] at hj
        obtain ⟨e, he, hb, hj⟩ := maskOf_bit hj
        have hpe : e.on ∈ predsOf ops acc.length := by
          simp only [predsOf, h0, List.mem_map, List.mem_filter]
          exact ⟨e, ⟨he, hb⟩, rfl⟩
        have hin := hp _ hpe
        rcases hj with rfl | hj
        · exact hin
        · by_cases hlt2 : e.on < acc.length
          · exact h e.on hlt2 l hl (hl.closed _ hin) j hj
          · rw [List.getD_eq_getElem?_getD, List.getElem?_eq_none (by omega)] at hj
            simp at hj

theorem masks_table : TableOk ops (masks ops.toList []) := masks_ok (fun k => by simp) (fun i hi => by simp at hi)

theorem masks_length : ∀ (r : List Oper) (acc : List Nat), (masks r acc).length = acc.length + r.length
  | [], acc => by simp [masks]
  | o :: r, acc => by simp only [masks]; rw [masks_length r]; simp; omega

/-- Those that have not come up yet, in the order of the text. -/
def left (n : Nat) (l : List Nat) : List Nat := (List.range n).filter fun i => !l.contains i

theorem left_split {n i : Nat} {l : List Nat} (hi : i ∉ l) (hlt : i < n) :
    ∃ a b, left n l = a ++ i :: b ∧ left n (l ++ [i]) = a ++ b ∧ ∀ x, x ∈ a → x < i ∧ x ∉ l := by
  obtain ⟨p, q, hpq, hp⟩ : ∃ p q, List.range n = p ++ i :: q ∧ (∀ x, x ∈ p → x < i) := by
    refine ⟨List.range i, (List.range (n - i - 1)).map (fun k => i + 1 + k), ?_, fun x hx => by simpa using hx⟩
    have h1 : n = i + (1 + (n - i - 1)) := by omega
    rw [h1, List.range_add, Nat.add_comm 1, List.range_succ_eq_map]
    simp only [List.map_cons, Nat.add_zero, List.map_map]
    congr 2
    have h2 : i + (n - i - 1 + 1) - i - 1 = n - i - 1 := by omega
    rw [h2]
    apply List.map_congr_left
    intro k _
    simp only [Function.comp]
    omega
  have hnd : (List.range n).Nodup := List.nodup_range
  rw [hpq] at hnd
  have hq : i ∉ q := by
    intro h
    rw [List.nodup_append] at hnd
    have := hnd.2.1
    simp only [List.nodup_cons] at this
    exact this.1 h
  have hip : i ∉ p := fun h => by have := hp i h; omega
  refine ⟨p.filter fun x => !l.contains x, q.filter fun x => !l.contains x, ?_, ?_, fun x hx => ?_⟩
  · simp only [left, hpq, List.filter_append, List.filter_cons]
    rw [if_pos (by simpa using hi)]
  · simp only [left, hpq, List.filter_append, List.filter_cons]
    have e1 : (p.filter fun x => !(l ++ [i]).contains x) = p.filter fun x => !l.contains x := by
      apply List.filter_congr
      intro x hx
      have : x ≠ i := fun e => hip (e ▸ hx)
      simp [this]
    have e2 : (q.filter fun x => !(l ++ [i]).contains x) = q.filter fun x => !l.contains x := by
      apply List.filter_congr
      intro x hx
      have : x ≠ i := fun e => hq (e ▸ hx)
      simp [this]
    rw [e1, e2]
    simp
  · rw [List.mem_filter] at hx
    exact ⟨hp x hx.1, by simpa using hx.2⟩

/-- The whole, from every beginning: as it goes in the order of the text. -/
theorem begun_goes {dec : List (Nat × Bool)} {hs : Nat → Nat → D} {r : Nat → Eff} {s : List SV × Mem} (hg : Goes P cs ops depth dec hs r (List.range ops.size) s)
    (hind : ∀ x i, x < i → i < ops.size → ((masks ops.toList []).getD i 0).testBit x = false → Indep ops x i (r x) (r i)) {l : List Nat} (hl : Begun ops l) :
    Goes P cs ops depth dec hs r (l ++ left ops.size l) s ∧ Alike (allR ops r (List.range ops.size) s) (allR ops r (l ++ left ops.size l) s) := by
  induction hl with
  | nil =>
    have : left ops.size [] = List.range ops.size := by simp [left]
    rw [List.nil_append, this]
    exact ⟨hg, Alike.refl _⟩
  | @snoc l i hl hi hlt hp ih =>
    obtain ⟨a, b, h1, h2, h3⟩ := left_split hi hlt
    rw [h1] at ih
    obtain ⟨ih1, ih2⟩ := ih
    rw [goes_append] at ih1
    have hx : ∀ x, x ∈ a → Indep ops x i (r x) (r i) := by
      intro x hxa
      obtain ⟨hxi, hxl⟩ := h3 x hxa
      refine hind x i hxi hlt ?_
      cases hb : ((masks ops.toList []).getD i 0).testBit x with
      | false => rfl
      | true => exact absurd (masks_table i (by rw [masks_length]; simpa using hlt) l hl hp x hb) hxl
    obtain ⟨g1, g2⟩ := goes_front hx ih1.2
    rw [h2, List.append_assoc, List.singleton_append]
    refine ⟨goes_append.2 ⟨ih1.1, g1⟩, ih2.trans ?_⟩
    rw [allR_append, allR_append (l := l)]
    exact g2
end
end Sx
end
section
/- One order of a region is walked; the others come to the same: in the model. -/
namespace Sx
open Go RowKit

theorem wpOp_run {P : Program} {ops : Array Oper} {Q : Exit → Act → World → Prop} {i : Nat} {o : Oper} {a : Act} {w w' : World} {v : Value} {K : Act → World → Prop} (ho : ops[i]? = some o)
    (hw : Region.wanted o (yielded ops a.tmps) = true) (hr : RunsTo P a o w v w') (hK : K (a.put o.dst v) w') : wpOp P ops Q i K a w := by
  unfold wpOp
  simp only [ho, hw, if_true]
  left
  unfold Oper.wp
  rcases hr with hr | ⟨hr, rfl⟩
  · rw [hr]; exact hK
  · rw [hr]; exact hK

theorem named_pick {k : Nat} {m : Mem} {T : List Nat} (h : k ∉ Mem.named m) : k ∉ Mem.named (pickM m T) := by
  intro hk
  simp only [Mem.named, List.mem_flatMap] at hk h
  obtain ⟨x, hx, hk⟩ := hk
  exact h ⟨x, (pickM_mem hx).1, hk⟩

theorem named_drop {k : Nat} {m : Mem} {T : List Nat} (h : k ∉ Mem.named m) : k ∉ Mem.named (dropM m T) := by
  intro hk
  simp only [Mem.named, List.mem_flatMap] at hk h
  obtain ⟨x, hx, hk⟩ := hk
  exact h ⟨x, (List.mem_filter.1 hx).1, hk⟩

/-- Nothing that a frame names reads otherwise. -/
def NearT (tmps : List SV) (rest : List SFrm) (E E' : Env) : Prop :=
  SV.denL E' tmps = SV.denL E tmps ∧ rest.map (SFrm.den E') = rest.map (SFrm.den E)

section
variable {P : Program} {C : Ctx} {cs : Ctrs} {ops : Array Oper} {depth : Nat}

theorem runOp_sound (hcs : cs.Ok P) {Q : Exit → Act → World → Prop} {rest : List SFrm} {s : List SV × Mem} {i : Nat} {o : Oper} {key : Nat} {E : Env} {H : HV} {w : World}
    (ho : ops[i]? = some o) (hw : Region.wanted o (yielded ops (SV.denL E s.1).toArray) = true)
    (g : Good C s.2 E H w) (hok : SV.OkL H s.1) (f1 : key ∉ SV.keysL s.1) (f2 : key ∉ Mem.named s.2) (f3 : ∀ f, f ∈ rest → key ∉ SV.keysL f.tmps) {K : Act → World → Prop}
    (h : ∀ hh : Nat → D, ∃ qs v out, runOp P cs s.1 key hh o.op (pickM s.2 (keysOp s.1 o.op)) = some (qs, v, out) ∧ (∀ q, q ∈ qs → q) ∧
      ∀ E' H' w', Good C (match out with | none => s.2 | some m => m ++ dropM s.2 (keysOp s.1 o.op)) E' H' w' → NearT s.1 rest E E' → HLe H H' → v.Ok H' →
        K ((⟨(SV.denL E s.1).toArray, []⟩ : Act).put o.dst (v.den E')) w') :
    wpOp P ops Q i K ⟨(SV.denL E s.1).toArray, []⟩ w := by
  have hT : (keysOp s.1 o.op).Nodup := keysOp_nodup _ _
  have gc := g.cut hT
  have gd : Good C (pickM s.2 (keysOp s.1 o.op)) E H w := gc.sub (List.sublist_append_left _ _)
  have k1 : SV.hasL key s.1 = false := SV.hasL_of_keys _ f1
  have k2 : Mem.has key (pickM s.2 (keysOp s.1 o.op)) = false := Mem.has_of_named (named_pick f2)
  have k3 : Mem.has key (dropM s.2 (keysOp s.1 o.op)) = false := Mem.has_of_named (named_drop f2)
  have near : ∀ {E' : Env}, Agree key E E' → NearT s.1 rest E E' := fun ha => ⟨SV.denL_agree ha _ k1, rest_agree ha fun f hf => SV.hasL_of_keys _ (f3 f hf)⟩
  unfold runOp at h
  cases hq : quickOp o.op with
  | true =>
    simp only [hq] at h
    obtain ⟨qs, v, out, he, hqs, hk⟩ := h (fun _ => default)
    split at he
    · rename_i ps v' m' hop
      cases he
      obtain ⟨h1, h2⟩ := oprQ_spec (P := P) (o := o) (v := v) (ps := qs) gd hok (by
        have hopr : opr P (evS s.1) (pickM s.2 (keysOp s.1 o.op)) 0 o.op = .val qs v m' := hop
        simp only [oprQ, hq, if_true, hopr]) hqs
      exact wpOp_run ho hw (.inl h1) (hk E H w g ⟨rfl, rfl⟩ (HLe.refl _) h2)
    · cases he
  | false =>
    simp only [hq] at h
    -- from the outcome of a plain operation
    have plain : (∀ hh : Nat → D, ∃ qs v m', outOf (opr P (evS s.1) (pickM s.2 (keysOp s.1 o.op)) key o.op) hh = some (qs, v, m') ∧ (∀ q, q ∈ qs → q) ∧
        ∀ E' H' w', Good C (m' ++ dropM s.2 (keysOp s.1 o.op)) E' H' w' → NearT s.1 rest E E' → HLe H H' → v.Ok H' →
          K ((⟨(SV.denL E s.1).toArray, []⟩ : Act).put o.dst (v.den E')) w') → wpOp P ops Q i K ⟨(SV.denL E s.1).toArray, []⟩ w := by
      intro h
      have hr := opr_spec (P := P) (o := o) (a := ⟨(SV.denL E s.1).toArray, []⟩) gd (fun x => den_evS E s.1 [] x) (ok_evS hok) k2 (fun x => has_evS k1 x)
      generalize opr P (evS s.1) (pickM s.2 (keysOp s.1 o.op)) key o.op = r at h hr
      cases r with
      | bad => obtain ⟨_, _, _, he, _⟩ := h (fun _ => default); simp [outOf] at he
      | val ps v m' =>
        obtain ⟨qs, v2, d, he, hq, hk⟩ := h (fun _ => default)
        simp only [outOf, Option.some.injEq, Prod.mk.injEq] at he
        obtain ⟨rfl, rfl, rfl⟩ := he
        obtain ⟨w', E', H', hrun, ha, hle, g', hv, hkeep⟩ := hr hq
        exact wpOp_run ho hw hrun (hk E' H' w' (gc.beside g' ha hle hkeep k3) (near ha) hle hv)
      | all ps gg =>
        have hq : ∀ q, q ∈ ps → q := by
          obtain ⟨qs, v2, d, he, hq, _⟩ := h (fun _ => default)
          simp only [outOf, Option.some.injEq, Prod.mk.injEq] at he
          rw [he.1]; exact hq
        obtain ⟨hs1, w', E', H', hrun, ha, hle, g', hv, hkeep⟩ := hr hq
        obtain ⟨qs, v2, d, he, _, hk⟩ := h hs1
        simp only [outOf, Option.some.injEq, Prod.mk.injEq] at he
        obtain ⟨rfl, rfl, rfl⟩ := he
        exact wpOp_run ho hw hrun (hk E' H' w' (gc.beside g' ha hle hkeep k3) (near ha) hle hv)
    have plain' : (∀ hh : Nat → D, ∃ qs v out, outS (outOf (opr P (evS s.1) (pickM s.2 (keysOp s.1 o.op)) key o.op) hh) = some (qs, v, out) ∧ (∀ q, q ∈ qs → q) ∧
        ∀ E' H' w', Good C (match out with | none => s.2 | some m => m ++ dropM s.2 (keysOp s.1 o.op)) E' H' w' → NearT s.1 rest E E' → HLe H H' → v.Ok H' →
          K ((⟨(SV.denL E s.1).toArray, []⟩ : Act).put o.dst (v.den E')) w') → wpOp P ops Q i K ⟨(SV.denL E s.1).toArray, []⟩ w := by
      intro h
      refine plain fun hh => ?_
      obtain ⟨qs, v, out, he, h1, h2⟩ := h hh
      unfold outS at he
      split at he
      · rename_i ps v' m' hout
        cases he
        exact ⟨_, _, _, hout, h1, h2⟩
      · cases he
    split at h
    · rename_i cl hop
      cases hcal : calleeOf (evS s.1) cl.callee with
      | none => simp only [hcal] at h; exact plain' h
      | some x =>
        obtain ⟨f, first, captured⟩ := x
        simp only [hcal] at h
        cases hfind : cs.find f with
        | none => obtain ⟨_, _, _, he, _⟩ := h (fun _ => default); simp [hfind] at he
        | some ctr =>
          simp only [hfind] at h
          obtain ⟨⟨fn, hfn, hb, hn⟩, hctr, hro⟩ := hcs _ (Ctrs.find_mem hfind)
          have hcall := hctr C E H w _ key _ gd (okL_args hok hcal) k2 (has_args k1 hcal)
          have hro := hro (first ++ cl.args.toList.map (evS s.1) ++ captured) key (pickM s.2 (keysOp s.1 o.op))
          have hrun := run_call (P := P) (fun x => den_evS E s.1 [] x) hcal hfn hb hn hop w
          have fin : ∀ {T : Value → World → Prop}, Calls P f (SV.denL E (first ++ cl.args.toList.map (evS s.1) ++ captured)).toArray w (fun e w' => ∃ v, e = .returned v ∧ T v w') →
              (∀ v w', T v w' → K ((⟨(SV.denL E s.1).toArray, []⟩ : Act).put o.dst v) w') → wpOp P ops Q i K ⟨(SV.denL E s.1).toArray, []⟩ w := by
            intro T hc hT
            unfold wpOp
            simp only [ho, hw, if_true]
            left
            unfold Oper.wp
            rw [hrun]
            refine Calls.mono hc fun e w' he => ?_
            obtain ⟨v, rfl, h1⟩ := he
            exact hT v w' h1
          simp only at hcall hro
          generalize ctr (first ++ cl.args.toList.map (evS s.1) ++ captured) key (pickM s.2 (keysOp s.1 o.op)) = r at h hcall hro
          have h' : ∀ hh : Nat → D, ∃ qs v m', outOf r hh = some (qs, v, m') ∧ (∀ q, q ∈ qs → q) ∧
              ∀ E' H' w', Good C (m' ++ dropM s.2 (keysOp s.1 o.op)) E' H' w' → NearT s.1 rest E E' → HLe H H' → v.Ok H' → K ((⟨(SV.denL E s.1).toArray, []⟩ : Act).put o.dst (v.den E')) w' := by
            intro hh
            obtain ⟨qs, v, out, he, h1, h2⟩ := h hh
            unfold outC at he
            split at he
            · rename_i ps v' m' hout
              split at he
              · rename_i hro'
                simp only [Bool.and_eq_true] at hro'
                cases he
                refine ⟨_, _, _, hout, h1, fun E' H' w' hg => h2 E' H' w' ?_⟩
                have hm' : m' = pickM s.2 (keysOp s.1 o.op) := by
                  have hro := hro hro'.1
                  cases r with
                  | bad => simp [outOf] at hout
                  | val ps v m2 =>
                    simp only [outOf, Option.some.injEq, Prod.mk.injEq] at hout
                    obtain ⟨_, _, rfl⟩ := hout
                    exact hro hro'.2
                  | all ps gg =>
                    simp only [outOf, Option.some.injEq, Prod.mk.injEq] at hout
                    obtain ⟨_, _, rfl⟩ := hout
                    exact hro _ hro'.2
                rw [hm'] at hg
                exact hg.alike (Mem.get_cut _ _) g.keys
              · cases he
                exact ⟨_, _, _, hout, h1, h2⟩
            · cases he
          cases r with
          | bad => obtain ⟨_, _, _, he, _⟩ := h' (fun _ => default); simp [outOf] at he
          | val ps v m' =>
            obtain ⟨qs, v2, d, he, hq, hk⟩ := h' (fun _ => default)
            simp only [outOf, Option.some.injEq, Prod.mk.injEq] at he
            obtain ⟨rfl, rfl, rfl⟩ := he
            have hcall := hcall hq
            refine fin (T := fun v' w' => ∃ E' H', v' = v.den E' ∧ Agree key E E' ∧ HLe H H' ∧ Good C m' E' H' w' ∧ v.Ok H' ∧ Keeps _ E H w key m' E' H' w')
              (Calls.mono hcall fun e w' ⟨E', H', he, h1⟩ => ⟨_, he, E', H', rfl, h1⟩) (fun v' w' ⟨E', H', hv', ha, hle, g', hv, hkeep⟩ => ?_)
            rw [hv']
            exact hk E' H' w' (gc.beside g' ha hle hkeep k3) (near ha) hle hv
          | all ps gg =>
            have hq : ∀ q, q ∈ ps → q := by
              obtain ⟨qs, v2, d, he, hq, _⟩ := h' (fun _ => default)
              simp only [outOf, Option.some.injEq, Prod.mk.injEq] at he
              rw [he.1]; exact hq
            have hcall := hcall hq
            refine fin (T := fun v' w' => ∃ hs E' H', v' = (gg hs).1.den E' ∧ Agree key E E' ∧ HLe H H' ∧ Good C (gg hs).2 E' H' w' ∧ (gg hs).1.Ok H' ∧ Keeps _ E H w key (gg hs).2 E' H' w')
              (Calls.mono hcall fun e w' ⟨hs1, E', H', he, h1⟩ => ⟨_, he, hs1, E', H', rfl, h1⟩) (fun v' w' ⟨hs1, E', H', hv', ha, hle, g', hv, hkeep⟩ => ?_)
            obtain ⟨qs, v2, d, he, _, hk⟩ := h' hs1
            simp only [outOf, Option.some.injEq, Prod.mk.injEq] at he
            obtain ⟨rfl, rfl, rfl⟩ := he
            rw [hv']
            exact hk E' H' w' (gc.beside g' ha hle hkeep k3) (near ha) hle hv
    · rename_i hnc
      exact plain' h

def setHs (hs : Nat → Nat → D) (i : Nat) (hh : Nat → D) : Nat → Nat → D := fun j => if j = i then hh else hs j

theorem wpOp_pure {Q : Exit → Act → World → Prop} {i : Nat} {o : Oper} {a : Act} {w : World} {v : Value} {K : Act → World → Prop} (ho : ops[i]? = some o)
    (hw : Region.wanted o (yielded ops a.tmps) = false) (hv : v = Go.undef) (hK : K (a.put o.dst v) w) : wpOp P ops Q i K a w := by
  unfold wpOp
  simp only [ho, hw]
  subst hv
  exact hK

/-- An operation in its turn. -/
theorem stepR_sound (hcs : cs.Ok P) {Q : Exit → Act → World → Prop} {rest : List SFrm} {s : List SV × Mem} {i : Nat} {E : Env} {H : HV} {w : World} {hs : Nat → Nat → D}
    (g : Good C s.2 E H w) (hok : SV.OkL H s.1) (f1 : dstKey depth (dstOf ops i) ∉ SV.keysL s.1) (f2 : dstKey depth (dstOf ops i) ∉ Mem.named s.2)
    (f3 : ∀ f, f ∈ rest → dstKey depth (dstOf ops i) ∉ SV.keysL f.tmps) {K : Act → World → Prop}
    (h : ∀ hh : Nat → D, ∃ dec e, stepR P cs ops depth dec (setHs hs i hh) s i = .ok e ∧ (∀ p, p ∈ e.ps → p) ∧
      ∀ E' H' w', Good C (applyR ops s i e).2 E' H' w' → NearT s.1 rest E E' → HLe H H' → SV.OkL H' (applyR ops s i e).1 → K ⟨(SV.denL E' (applyR ops s i e).1).toArray, []⟩ w') :
    wpOp P ops Q i K ⟨(SV.denL E s.1).toArray, []⟩ w := by
  -- what is put into the slot
  have put : ∀ {e : Eff} {E' : Env} {H' : HV} {w' : World} {o : Oper}, ops[i]? = some o → Good C (e.mem s.2) E' H' w' → NearT s.1 rest E E' → HLe H H' → e.v.Ok H' →
      (∀ E' H' w', Good C (applyR ops s i e).2 E' H' w' → NearT s.1 rest E E' → HLe H H' → SV.OkL H' (applyR ops s i e).1 → K ⟨(SV.denL E' (applyR ops s i e).1).toArray, []⟩ w') →
      K ((⟨(SV.denL E s.1).toArray, []⟩ : Act).put o.dst (e.v.den E')) w' := by
    intro e E' H' w' o ho hg hn hle hv hk
    have := hk E' H' w' hg hn hle (okL_putS (SV.OkL.mono hle _ hok) hv)
    simp only [applyR, dstOf, ho, Option.bind_some] at this
    rw [← put_den, hn.1] at this
    exact this
  obtain ⟨dec0, e0, hs0, hp0, hk0⟩ := h (fun _ => default)
  obtain ⟨o, ho⟩ := stepR_some hs0
  simp only [dstOf, ho, Option.bind_some] at f1 f2 f3
  unfold stepR at hs0
  simp only [ho] at hs0
  split at hs0
  · cases hs0
  · cases hs0
  · rename_i ps hg
    cases hs0
    exact wpOp_pure ho ((guardD_spec (E := E) hp0).2 hg) (v := SV.undef.den E) (by simp [SV.den]) (put (e := ⟨ps, .undef, [], none, none, none, none⟩) ho g ⟨rfl, rfl⟩ (HLe.refl _) (by simp [SV.Ok]) hk0)
  · rename_i ps hg
    have hw : Region.wanted o (yielded ops (SV.denL E s.1).toArray) = true := by
      refine (guardD_spec (E := E) (fun p hp => ?_)).1 hg
      split at hs0
      · unfold pickD at hs0
        split at hs0
        · cases hs0; exact hp0 p hp
        · split at hs0
          · cases hs0; exact hp0 p (List.mem_append_left _ hp)
          · cases hs0
        · cases hs0
      · split at hs0
        · exact hp0 p ((lookD_ok hs0).1 p hp)
        · cases hs0
      · split at hs0
        · split at hs0
          · split at hs0
            · cases hs0; exact hp0 p hp
            · cases hs0
          · cases hs0
        · split at hs0
          · cases hs0; exact hp0 p (List.mem_append_left _ hp)
          · cases hs0
      · split at hs0
        · cases hs0; exact hp0 p (List.mem_append_left _ hp)
        · cases hs0
      · split at hs0
        · cases hs0; exact hp0 p hp
        · cases hs0
      · split at hs0
        · cases hs0; exact hp0 p (List.mem_append_left _ hp)
        · cases hs0
    split at hs0
    · rename_i t x y hop
      -- a choice
      have pk : ∀ d : Bool, s.1[t]? = some (.lb d) ∨ (∃ b, s.1[t]? = some (.bool b) ∧ b = d) → ∀ {ps' : List Prop}, e0 = ⟨ps', if d then evS s.1 x else evS s.1 y, [], none, none, none, none⟩ → wpOp P ops Q i K ⟨(SV.denL E s.1).toArray, []⟩ w := by
        intro d hd ps' he
        subst he
        have hv : (if d then evS s.1 x else evS s.1 y).Ok H := by cases d <;> exact ok_evS hok _
        have hc : (⟨(SV.denL E s.1).toArray, []⟩ : Act).eval (.tmp t) = .bool d := by
          rw [den_evS]
          simp only [evS, List.getD_eq_getElem?_getD]
          rcases hd with hd | ⟨b, hd, rfl⟩
          · rw [hd]; simp [SV.den]
          · rw [hd]; simp [SV.den]
        refine wpOp_run ho hw (v := (if d then evS s.1 x else evS s.1 y).den E) (.inl ?_) (put (e := ⟨ps', if d then evS s.1 x else evS s.1 y, [], none, none, none, none⟩) ho g ⟨rfl, rfl⟩ (HLe.refl _) hv hk0)
        unfold execOp
        simp only [hop, hc, Sem.run_bind, run_bool, Result.andThen_ok]
        cases d
        · simp only [Bool.false_eq_true, if_false, den_evS, Sem.run_pure]
        · simp only [if_true, den_evS, Sem.run_pure]
      unfold pickD at hs0
      split at hs0
      · rename_i d hd
        cases hs0
        exact pk d (.inl hd) rfl
      · rename_i b hd
        split at hs0
        · rename_i d hdec
          cases hs0
          exact pk d (.inr ⟨b, hd, hp0 _ (by simp)⟩) rfl
        · cases hs0
      · cases hs0
    · rename_i t x j ok hop
      -- what a map holds
      split at hs0
      · rename_i l d hlk
        obtain ⟨_, hT, hout, hv⟩ := lookD_ok hs0
        have hv := hv hp0
        have gd : Good C (pickM s.2 (keysOp s.1 (.lookup t x j ok))) E H w := (g.cut (keysOp_nodup _ _)).sub (List.sublist_append_left _ _)
        obtain ⟨e1, e2⟩ := lookR_spec (P := P) gd hlk
        rw [← hv] at e1 e2
        refine wpOp_run ho hw (v := e0.v.den E) (.inl ?_) (put ho (by simp only [Eff.mem, hout.1, hout.2.1, hout.2.2]; exact g) ⟨rfl, rfl⟩ (HLe.refl _) e2 hk0)
        unfold execOp
        simp only [hop, Sem.run_bind]
        rw [den_evS, den_evS, e1]
        rfl
      · cases hs0
    · rename_i t a x hop
      -- a store
      have other : ∀ {ps : List Prop}, guardD dec0 ops o s.1 = .yes ps → (∀ K off, evS s.1 a ≠ .ptr K off) → wpOp P ops Q i K ⟨(SV.denL E s.1).toArray, []⟩ w := by
        intro ps hg hna
        refine runOp_sound (key := dstKey depth o.dst) hcs ho hw g hok f1 f2 f3 fun hh => ?_
        obtain ⟨dec1, e1, hs1, hp1, hk1⟩ := h hh
        unfold stepR at hs1
        simp only [ho] at hs1
        split at hs1
        · cases hs1
        · cases hs1
        · rename_i ps1 hg1
          cases hs1
          have := (guardD_spec (E := E) hp1).2 hg1
          rw [hw] at this
          cases this
        · rename_i ps1 hg1
          simp only [hop] at hs1
          split at hs1
          · rename_i qs v out hr
            cases hs1
            rw [show setHs hs i hh i = hh from by simp [setHs]] at hr
            rw [hop]
            exact ⟨qs, v, out, hr, fun q hq => hp1 q (List.mem_append_right _ hq), fun E' H' w' hg' hn hle hv => put (e := ⟨ps1 ++ qs, v, keysOp s.1 (.store t a x), out, none, none, none⟩) ho hg' hn hle hv hk1⟩
          · cases hs1
      split at hs0
      · rename_i K off ha
        split at hs0
        · rename_i vs n ty cs' h1 h2 h3
          split at hs0
          · rename_i hc
            cases hs0
            obtain ⟨w', e1, e2, _⟩ := storeR_spec (P := P) (t := t) (a := evS s.1 a) (v := evS s.1 x) (ps := []) (m' := s.2.set K (.cells ty (cs'.take off ++ vs ++ cs'.drop (off + n)))) g (ok_evS hok x) (by
              simp only [storeR, ha, h1, h2, h3]; rw [if_pos hc]) (by simp)
            refine wpOp_run ho hw (v := SV.undef.den E) (.inr ⟨?_, by simp [SV.den]⟩) (put (e := ⟨ps, .undef, [K], none, none, some (K, off, vs), none⟩) ho (by simp only [Eff.mem, h3, updC, hc.1]; exact e2) ⟨rfl, rfl⟩ (HLe.refl _) (by simp [SV.Ok]) hk0)
            unfold execOp
            simp only [hop, Sem.run_bind]
            rw [den_evS, den_evS, e1]
            rfl
          · cases hs0
        · cases hs0
      · rename_i hna
        exact other hg hna
    · rename_i t a hop
      -- a load
      split at hs0
      · rename_i qs v hr
        cases hs0
        have gd : Good C (pickM s.2 (keysOp s.1 (.load t a))) E H w := (g.cut (keysOp_nodup _ _)).sub (List.sublist_append_left _ _)
        simp only [runOp, quickOp] at hr
        split at hr
        · rename_i ps' v' m' he
          cases hr
          obtain ⟨e1, e2⟩ := oprQ_spec (P := P) (o := o) (v := v) (ps := qs) gd hok (by simp only [oprQ, hop, quickOp, if_true, he]) (fun p hp => hp0 p (List.mem_append_right _ hp))
          exact wpOp_run ho hw (.inl e1) (put (e := ⟨ps ++ qs, v, keysOp s.1 (.load t a), none, none, none, _⟩) ho g ⟨rfl, rfl⟩ (HLe.refl _) e2 hk0)
        · cases hr
      · cases hs0
    · rename_i t x j v hop
      split at hs0
      · rename_i K k n hins
        cases hs0
        have hget : ∃ o', s.2.get K = some o' := by obtain ⟨_, _, es, _, _, _, _, h5, _⟩ := insOk_spec hins; exact ⟨_, h5⟩
        obtain ⟨o', ho'⟩ := hget
        obtain ⟨w', e1, e2, _⟩ := insR_spec (P := P) (t := t) (x := evS s.1 x) (i := evS s.1 j) (v := evS s.1 v) (m' := s.2.set K (insO k n (evS s.1 v) o')) g (ok_evS hok v) (by simp only [insR, hins, ho'])
        refine wpOp_run ho hw (v := SV.undef.den E) (.inr ⟨?_, by simp [SV.den]⟩) (put (e := ⟨ps, .undef, [K], none, some (K, k, n, evS s.1 v), none, none⟩) ho (by simp only [Eff.mem, ho']; exact e2) ⟨rfl, rfl⟩ (HLe.refl _) (by simp [SV.Ok]) hk0)
        unfold execOp
        simp only [hop, Sem.run_bind]
        rw [den_evS, den_evS, den_evS, e1]
        rfl
      · cases hs0
    · rename_i hnp hnl hns hnd hni
      refine runOp_sound (key := dstKey depth o.dst) hcs ho hw g hok f1 f2 f3 fun hh => ?_
      obtain ⟨dec1, e1, hs1, hp1, hk1⟩ := h hh
      unfold stepR at hs1
      simp only [ho] at hs1
      split at hs1
      · cases hs1
      · cases hs1
      · rename_i ps1 hg1
        cases hs1
        have := (guardD_spec (E := E) hp1).2 hg1
        rw [hw] at this
        cases this
      · rename_i ps1 hg1
        split at hs1
        · rename_i qs v out hr
          cases hs1
          rw [show setHs hs i hh i = hh from by simp [setHs]] at hr
          exact ⟨qs, v, out, hr, fun q hq => hp1 q (List.mem_append_right _ hq), fun E' H' w' hg' hn hle hv => put (e := ⟨ps1 ++ qs, v, keysOp s.1 o.op, out, none, none, none⟩) ho hg' hn hle hv hk1⟩
        · cases hs1

/-- Whatever was assumed for it, what an operation comes to is one. -/
theorem stepR_det {dec dec' : List (Nat × Bool)} {hs hs' : Nat → Nat → D} {s : List SV × Mem} {i : Nat} {e e' : Eff} (hh : hs i = hs' i)
    (h : stepR P cs ops depth dec hs s i = .ok e) (h' : stepR P cs ops depth dec' hs' s i = .ok e') (hp : ∀ p, p ∈ e.ps → p) (hp' : ∀ p, p ∈ e'.ps → p) : e = e' := by
  have dd : ∀ {b d d' : Bool}, b = d → b = d' → d = d' := fun h1 h2 => h1.symm.trans h2
  have guard : ∀ {o : Oper} {ps ps' : List Prop}, (∀ p, p ∈ ps → p) → (∀ p, p ∈ ps' → p) →
      (guardD dec ops o s.1 = .yes ps → guardD dec' ops o s.1 = .yes ps' → ps = ps') ∧ (guardD dec ops o s.1 = .no ps → guardD dec' ops o s.1 = .no ps' → ps = ps') := by
    intro o ps ps' q q'
    unfold guardD
    cases o.guard with
    | none => constructor <;> (intro h1 h2; cases h1 <;> cases h2 <;> rfl)
    | some x =>
      obtain ⟨j, want⟩ := x
      simp only
      cases (ops[j]?).bind (·.dst) with
      | none => constructor <;> (intro h1 h2; cases h1)
      | some t =>
        simp only
        cases s.1[t]? with
        | none => constructor <;> (intro h1 h2; cases h1)
        | some v =>
          cases v
          case undef => constructor <;> (intro h1 h2; cases h1 <;> cases h2 <;> rfl)
          case lb b =>
            constructor
            · intro h1 h2
              simp only at h1 h2
              rw [h1] at h2
              cases h2; rfl
            · intro h1 h2
              simp only at h1 h2
              rw [h1] at h2
              cases h2; rfl
          case bool b =>
            simp only
            cases decOf dec t with
            | none => constructor <;> (intro h1 h2; cases h1)
            | some d =>
              cases decOf dec' t with
              | none => constructor <;> (intro h1 h2; cases h2)
              | some d' =>
                constructor
                · intro h1 h2
                  simp only at h1 h2
                  split at h1
                  · cases h1
                    split at h2
                    · cases h2
                      rw [dd (q _ (List.mem_singleton.2 rfl)) (q' _ (List.mem_singleton.2 rfl))]
                    · cases h2
                  · cases h1
                · intro h1 h2
                  simp only at h1 h2
                  split at h1
                  · cases h1
                  · cases h1
                    split at h2
                    · cases h2
                    · cases h2
                      rw [dd (q _ (List.mem_singleton.2 rfl)) (q' _ (List.mem_singleton.2 rfl))]
          all_goals (constructor <;> (intro h1 h2; cases h1))
  -- the guard's own word is part of what was assumed
  have word : ∀ {dec : List (Nat × Bool)} {hs : Nat → Nat → D} {e : Eff} {o : Oper}, ops[i]? = some o → stepR P cs ops depth dec hs s i = .ok e → (∀ p, p ∈ e.ps → p) →
      (∃ ps, guardD dec ops o s.1 = .no ps ∧ (∀ p, p ∈ ps → p)) ∨ ∃ ps, guardD dec ops o s.1 = .yes ps ∧ (∀ p, p ∈ ps → p) := by
    intro dec hs e o ho h hp
    unfold stepR at h
    simp only [ho] at h
    split at h
    · cases h
    · cases h
    · rename_i ps hg; cases h; exact .inl ⟨ps, hg, hp⟩
    · rename_i ps hg
      refine .inr ⟨ps, hg, fun p hpp => ?_⟩
      split at h
      · unfold pickD at h
        split at h
        · cases h; exact hp p hpp
        · split at h
          · cases h; exact hp p (List.mem_append_left _ hpp)
          · cases h
        · cases h
      · split at h
        · exact hp p ((lookD_ok h).1 p hpp)
        · cases h
      · split at h
        · split at h
          · split at h
            · cases h; exact hp p hpp
            · cases h
          · cases h
        · split at h
          · cases h; exact hp p (List.mem_append_left _ hpp)
          · cases h
      · split at h
        · cases h; exact hp p (List.mem_append_left _ hpp)
        · cases h
      · split at h
        · cases h; exact hp p hpp
        · cases h
      · split at h
        · cases h; exact hp p (List.mem_append_left _ hpp)
        · cases h
  obtain ⟨o, ho⟩ := stepR_some h
  have w1 := word ho h hp
  have w2 := word ho h' hp'
  let E : Env := ⟨fun _ => 0, fun _ => (none, 0), fun _ => .bool false⟩
  unfold stepR at h h'
  simp only [ho] at h h'
  rcases w1 with ⟨ps, hg, hq⟩ | ⟨ps, hg, hq⟩ <;> rcases w2 with ⟨ps', hg', hq'⟩ | ⟨ps', hg', hq'⟩
  · simp only [hg] at h
    simp only [hg'] at h'
    cases h; cases h'
    rw [(guard (o := o) hq hq').2 hg hg']
  · have a := (guardD_spec (E := E) hq).2 hg
    have b := (guardD_spec (E := E) hq').1 hg'
    rw [a] at b; cases b
  · have a := (guardD_spec (E := E) hq).1 hg
    have b := (guardD_spec (E := E) hq').2 hg'
    rw [a] at b; cases b
  · have hpe := (guard (o := o) hq hq').1 hg hg'
    subst hpe
    simp only [hg] at h
    simp only [hg'] at h'
    split at h
    · rename_i t x y hop
      simp only [hop] at h'
      unfold pickD at h h'
      split at h
      · rename_i d hd
        simp only [hd] at h'
        cases h; cases h'; rfl
      · rename_i b hd
        simp only [hd] at h'
        split at h
        · rename_i d hdec
          cases h
          split at h'
          · rename_i d' hdec'
            cases h'
            have := dd (hp _ (by simp) : b = d) (hp' _ (by simp) : b = d')
            subst this
            rfl
          · cases h'
        · cases h
      · cases h
    · rename_i t x j ok hop
      simp only [hop] at h'
      split at h
      · rename_i l d hlk
        simp only [hlk] at h'
        exact lookD_det h h' hp hp'
      · cases h
    · rename_i t a x hop
      simp only [hop, ← hh] at h'
      rw [h] at h'
      cases h'
      rfl
    · rename_i t a hop
      simp only [hop, ← hh] at h'
      rw [h] at h'
      cases h'
      rfl
    · rename_i t x j v hop
      simp only [hop] at h'
      rw [h] at h'
      cases h'
      rfl
    · rename_i hnp hnl hns hnd hni
      split at h'
      · rename_i t x y hop; exact absurd hop (hnp t x y)
      · rename_i t x j ok hop; exact absurd hop (hnl t x j ok)
      · rename_i t a x hop; exact absurd hop (hns t a x)
      · rename_i t a hop; exact absurd hop (hnd t a)
      · rename_i t x j v hop; exact absurd hop (hni t x j v)
      · rw [← hh] at h'
        rw [h] at h'
        cases h'
        rfl

theorem goes_det {dec dec' : List (Nat × Bool)} {hs hs' : Nat → Nat → D} {r r' : Nat → Eff} : ∀ {l : List Nat} {s : List SV × Mem}, (∀ i, i ∈ l → hs i = hs' i) →
    Goes P cs ops depth dec hs r l s → Goes P cs ops depth dec' hs' r' l s → (∀ i, i ∈ l → ∀ p, p ∈ (r i).ps → p) → (∀ i, i ∈ l → ∀ p, p ∈ (r' i).ps → p) → allR ops r l s = allR ops r' l s
  | [], _, _, _, _, _, _ => rfl
  | i :: l, s, hh, ⟨h1, h2⟩, ⟨h3, h4⟩, hp, hp' => by
    have e := stepR_det (hh i List.mem_cons_self) h1 h3 (hp i List.mem_cons_self) (hp' i List.mem_cons_self)
    simp only [allR]
    rw [← e] at h4 ⊢
    exact goes_det (fun j hj => hh j (List.mem_cons_of_mem _ hj)) h2 h4 (fun j hj => hp j (List.mem_cons_of_mem _ hj)) (fun j hj => hp' j (List.mem_cons_of_mem _ hj))
end
end Sx
end
section
/- Regions whose order is drawn: one order is walked, in the order of the text; a check says that all others come to the same. -/
namespace Sx
open Go RowKit

section
variable {P : Program} {C : Ctx} {cs : Ctrs} {ops : Array Oper} {depth : Nat}

/-- What is known of a region under a choice of headers. -/
structure Chk (P : Program) (cs : Ctrs) (ops : Array Oper) (depth : Nat) (s : List SV × Mem) (hs : Nat → Nat → D) (Fin : List SV × Mem → Prop) : Prop where
  ex : ∃ dec r, Goes P cs ops depth dec hs r (List.range ops.size) s ∧ (∀ i, i < ops.size → ∀ p, p ∈ (r i).ps → p) ∧
    (∀ x i, x < i → i < ops.size → ((masks ops.toList []).getD i 0).testBit x = false → Indep ops x i (r x) (r i)) ∧
    (∀ j i, j < ops.size → i < ops.size → i ≠ j → ((masks ops.toList []).getD j 0).testBit i = false → dstKey depth (dstOf ops i) ∉ (r j).named) ∧
    (allR ops r (List.range ops.size) s).2.Pairwise (fun x y => x.1 ≠ y.1) ∧ Fin (allR ops r (List.range ops.size) s)

theorem Begun.nodup {l : List Nat} (h : Begun ops l) : l.Nodup ∧ ∀ i, i ∈ l → i < ops.size := by
  induction h with
  | nil => simp
  | snoc h hi hlt hp ih =>
    refine ⟨?_, fun k hk => ?_⟩
    · rw [List.nodup_append]
      exact ⟨ih.1, by simp, fun a ha b hb => by rw [List.mem_singleton.1 hb]; exact fun e => hi (e ▸ ha)⟩
    · rcases List.mem_append.1 hk with hk | hk
      · exact ih.2 k hk
      · rw [List.mem_singleton.1 hk]; exact hlt

theorem named_set {m : Mem} {K : Nat} {o : OBlk} {key : Nat} (h : key ∈ Mem.named (m.set K o)) : key ∈ Mem.named m ∨ key ∈ o.keys := by
  induction m with
  | nil => cases h
  | cons x r ih =>
    obtain ⟨j, p⟩ := x
    simp only [Mem.set] at h
    split at h
    · simp only [Mem.named, List.flatMap_cons, List.mem_append, List.mem_cons] at h ⊢
      rcases h with (h | h) | h
      · exact .inl (.inl (.inl h))
      · exact .inr h
      · exact .inl (.inr h)
    · simp only [Mem.named, List.flatMap_cons, List.mem_append, List.mem_cons] at h ⊢ ih
      rcases h with h | h
      · exact .inl (.inl h)
      · rcases ih h with h | h
        · exact .inl (.inr h)
        · exact .inr h

theorem named_get {m : Mem} {K : Nat} {o : OBlk} {key : Nat} (hg : m.get K = some o) (h : key ∈ o.keys) : key ∈ Mem.named m := by
  simp only [Mem.named, List.mem_flatMap, List.mem_cons]
  exact ⟨_, Mem.get_mem hg, .inr h⟩

theorem insO_keys {k : IntKind} {n : Int} {v : SV} {o : OBlk} {key : Nat} (h : key ∈ (insO k n v o).keys) : key ∈ o.keys ∨ key ∈ v.keys := by
  cases o with
  | map es =>
    simp only [insO, OBlk.keys, List.mem_flatMap, List.mem_append] at h ⊢
    obtain ⟨e, he, h⟩ := h
    rcases List.mem_cons.1 ((insE_perm k n v es).subset he) with rfl | he
    · simp [SV.keys] at h; exact .inr h
    · exact .inl ⟨e, he, h⟩
  | _ => exact .inl h

theorem keysL_splice {cs vs : List SV} {a b key : Nat} (h : key ∈ SV.keysL (cs.take a ++ vs ++ cs.drop b)) : key ∈ SV.keysL cs ∨ key ∈ SV.keysL vs := by
  simp only [SV.mem_keysL, List.mem_append] at h ⊢
  obtain ⟨x, (hx | hx) | hx, hk⟩ := h
  · exact .inl ⟨x, List.mem_of_mem_take hx, hk⟩
  · exact .inr ⟨x, hx, hk⟩
  · exact .inl ⟨x, List.mem_of_mem_drop hx, hk⟩

theorem named_apply {s : List SV × Mem} {i : Nat} {e : Eff} {key : Nat} (h1 : key ∉ SV.keysL s.1) (h2 : key ∉ Mem.named s.2) (h3 : key ∉ e.named) :
    key ∉ SV.keysL (applyR ops s i e).1 ∧ key ∉ Mem.named (applyR ops s i e).2 := by
  simp only [Eff.named, List.mem_append, not_or] at h3
  obtain ⟨⟨⟨n1, n2⟩, n3⟩, n4⟩ := h3
  constructor
  · simp only [applyR]
    cases dstOf ops i with
    | none => exact h1
    | some d =>
      simp only [putS]
      intro hk
      obtain ⟨x, hx, hkx⟩ := SV.mem_keysL.1 hk
      rcases List.mem_or_eq_of_mem_set hx with hx | rfl
      · exact h1 (SV.mem_keysL.2 ⟨x, hx, hkx⟩)
      · exact n1 hkx
  · simp only [applyR, Eff.mem]
    cases hs : e.st with
    | some x =>
      obtain ⟨K, off, vs⟩ := x
      rw [hs] at n4
      simp only [List.mem_cons, not_or] at n4
      simp only
      cases hg : s.2.get K with
      | none => exact h2
      | some o =>
        intro hk
        rcases named_set hk with hk | hk
        · exact h2 hk
        · cases o with
          | cells t cs =>
            simp only [updC, OBlk.keys] at hk
            rcases keysL_splice hk with hk | hk
            · exact h2 (named_get hg hk)
            · exact n4.2 hk
          | _ => exact h2 (named_get hg hk)
    | none =>
      simp only
      cases hi : e.ins with
      | some x =>
        obtain ⟨K, kd, n, v⟩ := x
        rw [hi] at n3
        simp only [List.mem_cons, not_or] at n3
        simp only
        cases hg : s.2.get K with
        | none => exact h2
        | some o =>
          intro hk
          rcases named_set hk with hk | hk
          · exact h2 hk
          · rcases insO_keys hk with hk | hk
            · exact h2 (named_get hg hk)
            · exact n3.2 hk
      | none =>
        simp only
        cases ho : e.out with
        | none => exact h2
        | some m =>
          simp only
          rw [ho] at n2
          intro hk
          simp only [Mem.named, List.flatMap_append, List.mem_append] at hk
          rcases hk with hk | hk
          · exact n2 hk
          · exact named_drop h2 hk

theorem named_all {r : Nat → Eff} {key : Nat} : ∀ {l : List Nat} {s : List SV × Mem}, key ∉ SV.keysL s.1 → key ∉ Mem.named s.2 → (∀ i, i ∈ l → key ∉ (r i).named) →
    key ∉ SV.keysL (allR ops r l s).1 ∧ key ∉ Mem.named (allR ops r l s).2
  | [], _, h1, h2, _ => ⟨h1, h2⟩
  | i :: l, s, h1, h2, h3 => by
    obtain ⟨a, b⟩ := named_apply (ops := ops) (i := i) h1 h2 (h3 i List.mem_cons_self)
    exact named_all (l := l) (s := applyR ops s i (r i)) a b fun j hj => h3 j (List.mem_cons_of_mem _ hj)

theorem len_le : ∀ {n : Nat} {l : List Nat}, l.Nodup → (∀ i, i ∈ l → i < n) → l.length ≤ n
  | 0, l, _, h => by
    cases l with
    | nil => simp
    | cons x r => have := h x List.mem_cons_self; omega
  | n + 1, l, hn, h => by
    have h1 : (l.erase n).Nodup := hn.erase n
    have h2 := len_le h1 (n := n) fun i hi => by
      have := (List.Nodup.mem_erase_iff hn).1 hi
      have := h i this.2
      omega
    have h3 := List.length_erase (a := n) (l := l)
    split at h3 <;> omega

theorem full_of_len {l : List Nat} {n : Nat} (hnd : l.Nodup) (hlt : ∀ i, i ∈ l → i < n) (hlen : n ≤ l.length) : ∀ i, i < n → i ∈ l := by
  intro i hi
  rcases Classical.em (i ∈ l) with h | h
  · exact h
  · have := len_le (n := n) (List.nodup_cons.2 ⟨h, hnd⟩) fun j hj => by
      rcases List.mem_cons.1 hj with rfl | hj
      · exact hi
      · exact hlt j hj
    simp only [List.length_cons] at this
    omega

theorem left_full {n : Nat} {l : List Nat} (h : ∀ i, i < n → i ∈ l) : left n l = [] := by
  simp only [left, List.filter_eq_nil_iff, List.mem_range]
  intro i hi
  simp [h i hi]

/-- What stands where a region, or a part of it, has come to its end. -/
def Qi (P : Program) (f : FuncId) (ri : Option (Array Oper × List Nat)) (aw : Option Tmp) (k : List Item) (R : Value → World → Prop) : Exit → Act → World → Prop :=
  fun e a w => e = .normal ∧ CFrm.run P ⟨f, ri, aw, k, a⟩ w R

/-- All orders of the region, from any beginning. -/
theorem ord_sound (hcs : cs.Ok P) {R : Value → World → Prop} {f : FuncId} {aw : Option Tmp} {k : List Item} {rest : List SFrm} {s0 : List SV × Mem} {E0 : Env} {ri : Option (Array Oper × List Nat)}
    (hchk : ∀ hs, Chk P cs ops depth s0 hs fun s => Runs P C ⟨⟨f, ri, aw, k, s.1⟩, rest, s.2⟩ R)
    (hlt : ∀ i, i < ops.size → ∀ j, j ∈ predsOf ops i → j < i)
    (hfr : ∀ i, i < ops.size → dstKey depth (dstOf ops i) ∉ SV.keysL s0.1 ∧ dstKey depth (dstOf ops i) ∉ Mem.named s0.2 ∧ ∀ f, f ∈ rest → dstKey depth (dstOf ops i) ∉ SV.keysL f.tmps) :
    ∀ (fuel : Nat) (l : List Nat) (listed : Array Bool) (dec : List (Nat × Bool)) (hs : Nat → Nat → D) (r : Nat → Eff) (E : Env) (H : HV) (w : World),
      fuel + l.length = ops.size → Begun ops l → listed.size = ops.size → (∀ j, j < ops.size → listed[j]? = some (l.contains j)) →
      Goes P cs ops depth dec hs r l s0 → (∀ i, i ∈ l → ∀ p, p ∈ (r i).ps → p) →
      Good C (allR ops r l s0).2 E H w → SV.OkL H (allR ops r l s0).1 → (∀ f, f ∈ rest → SV.OkL H f.tmps) → rest.map (SFrm.den E) = rest.map (SFrm.den E0) →
      wpAny P .any ops (Qi P f ri aw k (restOf P (rest.map (SFrm.den E0)) R)) fuel listed ⟨(SV.denL E (allR ops r l s0).1).toArray, []⟩ w := by
  intro fuel
  -- where all have come up
  have fin : ∀ (l : List Nat) (dec : List (Nat × Bool)) (hs : Nat → Nat → D) (r : Nat → Eff) (E : Env) (H : HV) (w : World), Begun ops l → (∀ i, i < ops.size → i ∈ l) →
      Goes P cs ops depth dec hs r l s0 → (∀ i, i ∈ l → ∀ p, p ∈ (r i).ps → p) →
      Good C (allR ops r l s0).2 E H w → SV.OkL H (allR ops r l s0).1 → (∀ f, f ∈ rest → SV.OkL H f.tmps) → rest.map (SFrm.den E) = rest.map (SFrm.den E0) →
      Qi P f ri aw k (restOf P (rest.map (SFrm.den E0)) R) .normal ⟨(SV.denL E (allR ops r l s0).1).toArray, []⟩ w := by
    intro l dec hs r E H w hb hfull hgo hp g ok okr hrest
    obtain ⟨dec', r', h1, h2, h3, h4, h5, h6⟩ := (hchk hs).ex
    obtain ⟨g1, g2⟩ := begun_goes h1 h3 hb
    rw [left_full hfull, List.append_nil] at g1 g2
    have e := goes_det (fun _ _ => rfl) hgo g1 hp (fun i hi => h2 i (hb.nodup.2 i hi))
    rw [e] at g ok ⊢
    have gg := g.alike (m' := (allR ops r' (List.range ops.size) s0).2) (fun k => (g2.2 k).symm) h5
    have := h6 E H w gg ⟨by rw [g2.1]; exact ok, okr⟩
    rw [stkRun_eq, hrest] at this
    rw [← g2.1]
    exact ⟨rfl, this⟩
  induction fuel with
  | zero =>
    intro l listed dec hs r E H w hlen hb hsz hl hgo hp g ok okr hrest
    have hfull := full_of_len hb.nodup.1 hb.nodup.2 (by omega)
    refine ⟨?_, fin l dec hs r E H w hb hfull hgo hp g ok okr hrest⟩
    rw [List.eq_nil_iff_forall_not_mem]
    intro i hi
    obtain ⟨h0, o, ho, _⟩ := mem_ready.1 hi
    have hi' : i < ops.size := (Array.getElem?_eq_some_iff.1 ho).1
    have := hl i hi'
    simp only [Array.getD_eq_getD_getElem?, this, Option.getD_some] at h0
    simp [hfull i hi'] at h0
  | succ fuel ih =>
    intro l listed dec hs r E H w hlen hb hsz hl hgo hp g ok okr hrest
    refine ⟨fun hnil => ?_, fun i hi => ?_⟩
    · -- the first that has not come up may come up
      refine fin l dec hs r E H w hb (fun i hi => ?_) hgo hp g ok okr hrest
      induction i using Nat.strongRecOn with
      | _ i ihi =>
        rcases Classical.em (i ∈ l) with h | h
        · exact h
        · exfalso
          have hmem : i ∈ Region.ready .any ops listed := by
            rw [mem_ready]
            refine ⟨by simp [Array.getD_eq_getD_getElem?, hl i hi, h], ops[i], by simp [hi], fun e he hb2 => ?_⟩
            have hpe : e.on ∈ predsOf ops i := by
              simp only [predsOf, Array.getElem?_eq_getElem hi, List.mem_map, List.mem_filter]
              exact ⟨e, ⟨by simpa using he, hb2⟩, rfl⟩
            have hlt' := hlt i hi _ hpe
            have := ihi e.on hlt' (by omega)
            simp [Array.getD_eq_getD_getElem?, hl e.on (by omega), this]
          rw [hnil] at hmem
          cases hmem
    · obtain ⟨h0, o, ho, hall⟩ := mem_ready.1 hi
      have hi' : i < ops.size := (Array.getElem?_eq_some_iff.1 ho).1
      have hil : i ∉ l := by
        have := hl i hi'
        simp only [Array.getD_eq_getD_getElem?, this, Option.getD_some] at h0
        simpa using h0
      have hb' : Begun ops (l ++ [i]) := by
        refine .snoc hb hil hi' fun j hj => ?_
        simp only [predsOf, ho, List.mem_map, List.mem_filter] at hj
        obtain ⟨e, ⟨he, hbe⟩, rfl⟩ := hj
        have h1 := hall e (by simpa using he) hbe
        have hjlt : e.on < ops.size := by
          rcases Nat.lt_or_ge e.on ops.size with h | h
          · exact h
          · rw [Array.getD_eq_getD_getElem?, Array.getElem?_eq_none (by omega)] at h1; simp at h1
        simp only [Array.getD_eq_getD_getElem?, hl _ hjlt, Option.getD_some] at h1
        simpa using h1
      obtain ⟨f1, f2, f3⟩ := hfr i hi'
      -- nothing names its key yet
      have hnk : dstKey depth (dstOf ops i) ∉ SV.keysL (allR ops r l s0).1 ∧ dstKey depth (dstOf ops i) ∉ Mem.named (allR ops r l s0).2 := by
        obtain ⟨dec', r', h1, h2, h3, h4, h5, h6⟩ := (hchk hs).ex
        have g1 := (goes_append.1 (begun_goes h1 h3 hb).1).1
        rw [goes_det (fun _ _ => rfl) hgo g1 hp (fun i hi => h2 i (hb.nodup.2 i hi))]
        refine named_all f1 f2 fun j hj => h4 j i (hb.nodup.2 j hj) hi' (fun e => hil (e ▸ hj)) ?_
        cases hbit : ((masks ops.toList []).getD j 0).testBit i with
        | false => rfl
        | true => exact absurd (masks_table j (by rw [masks_length]; simpa using hb.nodup.2 j hj) l hb (fun q hq => hb.closed j hj q hq) i hbit) hil
      refine stepR_sound (rest := rest) (depth := depth) (hs := hs) hcs g ok hnk.1 hnk.2 f3 fun hh => ?_
      obtain ⟨dec', r', h1, h2, h3, h4, h5, h6⟩ := (hchk (setHs hs i hh)).ex
      have g1 := (goes_append.1 (begun_goes h1 h3 hb').1).1
      have g2 := goes_append.1 g1
      have hag : ∀ j, j ∈ l → hs j = setHs hs i hh j := fun j hj => by
        have : j ≠ i := fun e => hil (e ▸ hj)
        simp [setHs, this]
      have e := goes_det hag hgo g2.1 hp (fun i hi => h2 i (hb.nodup.2 i hi))
      have hstep := g2.2.1
      rw [← e] at hstep
      refine ⟨dec', r' i, hstep, h2 i hi', fun E' H' w' g' hnear hle okk => ?_⟩
      have e2 : applyR ops (allR ops r l s0) i (r' i) = allR ops r' (l ++ [i]) s0 := by rw [allR_append, e]; rfl
      rw [e2] at g' okk ⊢
      refine ih (l ++ [i]) (listed.setIfInBounds i true) dec' (setHs hs i hh) r' E' H' w' (by simp; omega) hb' (by simpa using hsz) (fun j hj => ?_) g1
        (fun j hj => h2 j (hb'.nodup.2 j hj)) g' okk (fun f hf => SV.OkL.mono hle _ (okr f hf)) (hnear.2.trans hrest)
      by_cases hji : j = i
      · subst hji
        simp [hsz, hj]
      · rw [Array.getElem?_setIfInBounds_ne (Ne.symm hji), hl j hj]
        simp [hji]

/-! ### The walk and its check, to be computed -/

inductive CRes where
  | done (s : List SV × Mem) (es : List Eff)
  | ask (t : Nat) (b : Bool)
  | bad

def CRes.cons (e : Eff) : CRes → CRes
  | .done s es => .done s (e :: es)
  | r => r

noncomputable def Eff.nz {β : Type _} (e : Eff) (k : Eff → β) : β :=
  match e with
  | ⟨ps, v, T, out, ins, st, ld⟩ => v.nz2 fun v => match out with
    | none => k ⟨ps, v, T, none, ins, st, ld⟩
    | some m => nzM m fun m => k ⟨ps, v, T, some m, ins, st, ld⟩

theorem Eff.nz_eq {β : Type _} (e : Eff) (k : Eff → β) : e.nz k = k e := by
  obtain ⟨ps, v, T, out, ins, st, ld⟩ := e
  simp only [Eff.nz, SV.nz2_eq]
  cases out with
  | none => rfl
  | some m => simp only [nzM_eq]

noncomputable def canonR (P : Program) (cs : Ctrs) (ops : Array Oper) (depth : Nat) (dec : List (Nat × Bool)) (hs : Nat → Nat → D) : List Nat → List SV × Mem → CRes
  | [], s => .done s []
  | i :: l, s => match stepR P cs ops depth dec hs s i with
    | .ok e => e.nz fun e => nzS (applyR ops s i e).1 (applyR ops s i e).2 fun t m => (canonR P cs ops depth dec hs l (t, m)).cons e
    | .ask t b => .ask t b
    | .bad => .bad

theorem canonR_spec {dec : List (Nat × Bool)} {hs : Nat → Nat → D} : ∀ {n a : Nat} {s s' : List SV × Mem} {es : List Eff}, canonR P cs ops depth dec hs (List.range' a n) s = .done s' es →
    ∀ r : Nat → Eff, (∀ k, k < n → r (a + k) = es.getD k ⟨[], .undef, [], none, none, none, none⟩) → es.length = n ∧ Goes P cs ops depth dec hs r (List.range' a n) s ∧ allR ops r (List.range' a n) s = s'
  | 0, a, s, s', es, h, r, _ => by
    simp only [List.range'_zero, canonR, CRes.done.injEq] at h
    obtain ⟨rfl, rfl⟩ := h
    exact ⟨rfl, trivial, rfl⟩
  | n + 1, a, s, s', es, h, r, hr => by
    simp only [List.range'_succ, canonR] at h
    split at h
    · rename_i e he
      simp only [Eff.nz_eq, nzS_eq] at h
      cases hc : canonR P cs ops depth dec hs (List.range' (a + 1) n) (applyR ops s a e) with
      | done s2 es2 =>
        rw [show ((applyR ops s a e).1, (applyR ops s a e).2) = applyR ops s a e from rfl, hc] at h
        simp only [CRes.cons, CRes.done.injEq] at h
        obtain ⟨rfl, rfl⟩ := h
        have h0 : r a = e := by have := hr 0 (by omega); simpa using this
        obtain ⟨i1, i2, i3⟩ := canonR_spec hc r (fun k hk => by have := hr (k + 1) (by omega); rw [show a + 1 + k = a + (k + 1) from by omega]; simpa using this)
        refine ⟨by simp [i1], ?_, ?_⟩
        · simp only [List.range'_succ, Goes, h0]; exact ⟨he, i2⟩
        · simp only [List.range'_succ, allR, h0]; exact i3
      | ask t b => rw [show ((applyR ops s a e).1, (applyR ops s a e).2) = applyR ops s a e from rfl, hc] at h; cases h
      | bad => rw [show ((applyR ops s a e).1, (applyR ops s a e).2) = applyR ops s a e from rfl, hc] at h; cases h
    · cases h
    · cases h

/-- What the check looks at: bits. -/
structure Row where
  anc : Nat
  dst : Nat
  uses : Nat
  rd : Nat
  wr : Nat
  key : Nat
  named : Nat
  ins : Nat
  st : Option (Nat × Nat × Nat)
  ld : Option (Nat × Nat × Nat)

def maskD (d : Option Tmp) : Nat := match d with | some t => 2 ^ t | none => 0

def rowOf (ops : Array Oper) (depth : Nat) (ms : List Nat) (i : Nat) (e : Eff) : Row :=
  ⟨ms.getD i 0, maskD (dstOf ops i), maskN (usesAt ops i), maskN e.T, maskN e.wr, dstKey depth (dstOf ops i), maskN e.named, match e.ins with | some (K, _) => K + 1 | none => 0, match e.st with | some (K, o, vs) => some (K, o, vs.length) | none => none, e.ld⟩

def apartB (a b : Option (Nat × Nat × Nat)) : Bool :=
  match a, b with
  | some (K, o, n), some (K', o', n') => Nat.beq K K' && (Nat.ble (o + n) o' || Nat.ble (o' + n') o)
  | _, _ => false

def posB (a : Option (Nat × Nat × Nat)) : Bool :=
  match a with
  | some (_, _, n) => Nat.blt 0 n
  | none => false

theorem apartB_spec {a b : Option (Nat × Nat × Nat)} (h : apartB a b = true) : ∃ K o n o' n', a = some (K, o, n) ∧ b = some (K, o', n') ∧ Apart o n o' n' := by
  unfold apartB at h
  split at h
  · rename_i K o n K' o' n'
    simp only [Bool.and_eq_true, Bool.or_eq_true] at h
    have hK := Nat.eq_of_beq_eq_true h.1
    subst hK
    refine ⟨K, o, n, o', n', rfl, rfl, ?_⟩
    rcases h.2 with h | h
    · exact .inl (Nat.le_of_ble_eq_true h)
    · exact .inr (Nat.le_of_ble_eq_true h)
  · cases h

def pairOk (x : Nat) (a b : Row) : Bool :=
  b.anc.testBit x || (Nat.beq (a.dst &&& (b.uses ||| b.dst)) 0 && Nat.beq (b.dst &&& a.uses) 0 &&
    ((Nat.beq (a.wr &&& (b.rd ||| b.wr)) 0 && Nat.beq (b.wr &&& a.rd) 0) || (Nat.beq a.ins b.ins && !Nat.beq a.ins 0) ||
      (apartB a.ld b.st && posB a.ld) || (apartB a.st b.ld && posB b.ld) || apartB a.st b.st))

def pairsX : Nat → List Row → Row → Bool
  | _, [], _ => true
  | x, a :: r, b => pairOk x a b && pairsX (x + 1) r b

def pairsAll : List Row → List Row → Bool
  | _, [] => true
  | pre, b :: r => pairsX 0 pre b && pairsAll (pre ++ [b]) r

/-- The keys that may not be named yet. -/
def forb (j : Nat) (b : Row) : Nat → List Row → Nat
  | _, [] => 0
  | i, a :: r => if Nat.beq i j || b.anc.testBit i then forb j b (i + 1) r else 2 ^ a.key ||| forb j b (i + 1) r

def namedAll (rows : List Row) : Nat → List Row → Bool
  | _, [] => true
  | j, b :: r => Nat.beq (b.named &&& forb j b 0 rows) 0 && namedAll rows (j + 1) r

def rowsFrom (ops : Array Oper) (depth : Nat) (ms : List Nat) : Nat → List Eff → List Row
  | _, [] => []
  | i, e :: r => rowOf ops depth ms i e :: rowsFrom ops depth ms (i + 1) r

def keysMask (depth : Nat) : List Oper → Nat
  | [] => 0
  | o :: r => 2 ^ dstKey depth o.dst ||| keysMask depth r

def distinct : Nat → List Nat → Bool
  | _, [] => true
  | s, k :: r => !s.testBit k && distinct (2 ^ k ||| s) r

def below : Nat → List Nat → Bool
  | _, [] => true
  | i, a :: r => Nat.blt a (2 ^ i) && below (i + 1) r

def checkR (ops : Array Oper) (depth : Nat) (ms : List Nat) (es : List Eff) (m : Mem) : Bool :=
  pairsAll [] (rowsFrom ops depth ms 0 es) && namedAll (rowsFrom ops depth ms 0 es) 0 (rowsFrom ops depth ms 0 es) && distinct 0 (m.map (·.1))

def checkS (ops : Array Oper) (depth : Nat) (ms : List Nat) (s : List SV × Mem) (rest : List SFrm) : Bool :=
  below 0 ms && Nat.beq (maskN (SV.keysL s.1 ++ Mem.named s.2 ++ rest.flatMap fun f => SV.keysL f.tmps) &&& keysMask depth ops.toList) 0

theorem pairsX_spec {b : Row} : ∀ {l : List Row} {x : Nat}, pairsX x l b = true → ∀ k a, l[k]? = some a → pairOk (x + k) a b = true
  | [], _, _, k, a, h => by simp at h
  | c :: r, x, h, k, a, hk => by
    simp only [pairsX, Bool.and_eq_true] at h
    cases k with
    | zero => simp at hk; subst hk; exact h.1
    | succ k => have := pairsX_spec h.2 k a (by simpa using hk); rwa [show x + 1 + k = x + (k + 1) from by omega] at this

theorem pairsAll_spec : ∀ {l pre : List Row}, pairsAll pre l = true → ∀ i x a b, x < i → pre.length ≤ i → (pre ++ l)[i]? = some b → (pre ++ l)[x]? = some a → pairOk x a b = true
  | [], pre, _, i, x, a, b, _, h1, h2, _ => by rw [List.append_nil, List.getElem?_eq_none h1] at h2; cases h2
  | c :: r, pre, h, i, x, a, b, hx, h1, h2, h3 => by
    simp only [pairsAll, Bool.and_eq_true] at h
    by_cases hi : i = pre.length
    · subst hi
      rw [List.getElem?_append_right (Nat.le_refl _)] at h2
      simp at h2
      subst h2
      rw [List.getElem?_append_left hx] at h3
      have := pairsX_spec h.1 x a h3
      simpa using this
    · refine pairsAll_spec (l := r) (pre := pre ++ [c]) h.2 i x a b hx (by simp; omega) (by simpa using h2) (by simpa using h3)

theorem forb_bit {j : Nat} {b : Row} : ∀ {l : List Row} {i : Nat} {k : Nat} {a : Row}, l[k]? = some a → i + k ≠ j → b.anc.testBit (i + k) = false → (forb j b i l).testBit a.key = true
  | [], _, _, _, h, _, _ => by simp at h
  | c :: r, i, 0, a, h, h1, h2 => by
    simp at h
    subst h
    simp only [Nat.add_zero] at h1 h2
    have : Nat.beq i j = false := by
      rw [← Bool.not_eq_true]
      intro e
      exact h1 (Nat.eq_of_beq_eq_true e)
    simp [forb, this, h2, Nat.testBit_or]
  | c :: r, i, k + 1, a, h, h1, h2 => by
    have ih := forb_bit (l := r) (i := i + 1) (k := k) (a := a) (j := j) (b := b) (by simpa using h) (by omega) (by rw [show i + 1 + k = i + (k + 1) from by omega]; exact h2)
    simp only [forb]
    split
    · exact ih
    · simp [Nat.testBit_or, ih]

theorem namedAll_spec {rows : List Row} : ∀ {l : List Row} {j : Nat}, namedAll rows j l = true → ∀ k b, l[k]? = some b → (b.named &&& forb (j + k) b 0 rows) = 0
  | [], _, _, k, b, h => by simp at h
  | c :: r, j, h, k, b, hk => by
    simp only [namedAll, Bool.and_eq_true] at h
    cases k with
    | zero => simp at hk; subst hk; exact Nat.eq_of_beq_eq_true h.1
    | succ k => have := namedAll_spec h.2 k b (by simpa using hk); rwa [show j + 1 + k = j + (k + 1) from by omega] at this

theorem rowsFrom_get {ms : List Nat} : ∀ {es : List Eff} {i k : Nat}, k < es.length → (rowsFrom ops depth ms i es)[k]? = some (rowOf ops depth ms (i + k) (es.getD k ⟨[], .undef, [], none, none, none, none⟩))
  | [], _, _, h => by simp at h
  | e :: r, i, 0, _ => by simp [rowsFrom]
  | e :: r, i, k + 1, h => by
    have := rowsFrom_get (ms := ms) (es := r) (i := i + 1) (k := k) (by simpa using h)
    simp only [rowsFrom, List.getElem?_cons_succ, this, List.getD_cons_succ]
    rw [show i + 1 + k = i + (k + 1) from by omega]

theorem keysMask_bit : ∀ {l : List Oper} {i : Nat} {o : Oper}, l[i]? = some o → (keysMask depth l).testBit (dstKey depth o.dst) = true
  | [], _, _, h => by simp at h
  | c :: r, 0, o, h => by simp at h; subst h; simp [keysMask, Nat.testBit_or]
  | c :: r, i + 1, o, h => by simp [keysMask, Nat.testBit_or, keysMask_bit (l := r) (i := i) (o := o) (by simpa using h)]

theorem distinct_spec : ∀ {l : List Nat} {s : Nat}, distinct s l = true → l.Nodup ∧ ∀ k, k ∈ l → s.testBit k = false
  | [], _, _ => by simp
  | k :: r, s, h => by
    simp only [distinct, Bool.and_eq_true, Bool.not_eq_true'] at h
    obtain ⟨i1, i2⟩ := distinct_spec h.2
    refine ⟨List.nodup_cons.2 ⟨fun hk => ?_, i1⟩, fun j hj => ?_⟩
    · have := i2 k hk
      simp [Nat.testBit_or] at this
    · rcases List.mem_cons.1 hj with rfl | hj
      · exact h.1
      · have := i2 j hj
        simp only [Nat.testBit_or, Bool.or_eq_false_iff] at this
        exact this.2

theorem below_spec : ∀ {l : List Nat} {i : Nat}, below i l = true → ∀ k, k < l.length → l.getD k 0 < 2 ^ (i + k)
  | [], _, _, _, h => by simp at h
  | a :: r, i, h, 0, _ => by
    simp only [below, Bool.and_eq_true] at h
    have := h.1
    simp only [Nat.blt_eq] at this
    simpa using this
  | a :: r, i, h, k + 1, hk => by
    simp only [below, Bool.and_eq_true] at h
    have := below_spec h.2 k (by simpa using hk)
    rw [show i + 1 + k = i + (k + 1) from by omega] at this
    simpa using this

theorem masks_old : ∀ {r : List Oper} {acc : List Nat} {i : Nat}, i < acc.length → (masks r acc).getD i 0 = acc.getD i 0
  | [], _, _, _ => rfl
  | o :: r, acc, i, h => by
    simp only [masks]
    rw [masks_old (by simp; omega), List.getD_eq_getElem?_getD, List.getElem?_append_left h, ← List.getD_eq_getElem?_getD]

theorem maskOf_on {acc : List Nat} {o : Oper} {e : Edge} (he : e ∈ o.after.toList) (hb : Region.binds .any e = true) : (maskOf acc o).testBit e.on = true := by
  unfold maskOf
  generalize o.after.toList = es at he
  induction es with
  | nil => cases he
  | cons x r ih =>
    simp only [List.foldr_cons]
    rcases List.mem_cons.1 he with rfl | he
    · simp [hb, Nat.testBit_or]
    · split
      · rw [Nat.testBit_or, ih he, Bool.or_true]
      · exact ih he

theorem masks_at : ∀ {r : List Oper} {acc : List Nat} {k : Nat} {o : Oper}, r[k]? = some o → ∃ acc', (masks r acc).getD (acc.length + k) 0 = maskOf acc' o
  | [], _, _, _, h => by simp at h
  | o :: r, acc, 0, o', h => by
    simp at h
    subst h
    refine ⟨acc, ?_⟩
    simp only [masks, Nat.add_zero]
    rw [masks_old (by simp), List.getD_eq_getElem?_getD, List.getElem?_append_right (Nat.le_refl _)]
    simp
  | o :: r, acc, k + 1, o', h => by
    obtain ⟨acc', h'⟩ := masks_at (r := r) (acc := acc ++ [maskOf acc o]) (k := k) (o := o') (by simpa using h)
    refine ⟨acc', ?_⟩
    simp only [masks]
    rw [← h']
    congr 1
    simp; omega

theorem masks_direct {i j : Nat} (hi : i < ops.size) (hj : j ∈ predsOf ops i) : ((masks ops.toList []).getD i 0).testBit j = true := by
  obtain ⟨acc, h⟩ := masks_at (r := ops.toList) (acc := []) (k := i) (o := ops[i]) (by simp [hi])
  simp only [List.length_nil, Nat.zero_add] at h
  rw [h]
  simp only [predsOf, Array.getElem?_eq_getElem hi, List.mem_map, List.mem_filter] at hj
  obtain ⟨e, ⟨he, hb⟩, rfl⟩ := hj
  exact maskOf_on he hb

theorem maskD_bit {d : Option Tmp} {k : Nat} (h : d = some k) : (maskD d).testBit k = true := by subst h; simp [maskD]

theorem indep_of_pair {x i : Nat} {ex ei : Eff} {ms : List Nat} (h : pairOk x (rowOf ops depth ms x ex) (rowOf ops depth ms i ei) = true) (hb : (ms.getD i 0).testBit x = false) : Indep ops x i ex ei := by
  simp only [pairOk, rowOf, hb, Bool.false_or, Bool.and_eq_true] at h
  obtain ⟨⟨h1, h2⟩, h3⟩ := h
  have h1 := Nat.eq_of_beq_eq_true h1
  have h2 := Nat.eq_of_beq_eq_true h2
  refine ⟨fun k hk => ?_, fun k hk => ?_, ?_⟩
  · have := mask_apart h1 k (maskD_bit hk)
    simp only [Nat.testBit_or, Bool.or_eq_false_iff, maskN_bit] at this
    refine ⟨by simpa using this.1, fun e => ?_⟩
    rw [maskD_bit e] at this
    exact absurd this.2 (by simp)
  · have := mask_apart h2 k (maskD_bit hk)
    rw [maskN_bit] at this
    simpa using this
  · simp only [Bool.or_eq_true] at h3
    have sto : ∀ {e : Eff} {K o n : Nat}, (match e.st with | some (K, o, vs) => some (K, o, vs.length) | none => none) = some (K, o, n) → ∃ vs, e.st = some (K, o, vs) ∧ n = vs.length := by
      intro e K o n h
      split at h
      · rename_i K' o' vs hs
        simp only [Option.some.injEq, Prod.mk.injEq] at h
        obtain ⟨rfl, rfl, rfl⟩ := h
        exact ⟨vs, hs, rfl⟩
      · cases h
    have pos : ∀ {a : Option (Nat × Nat × Nat)} {K o n : Nat}, posB a = true → a = some (K, o, n) → 0 < n := by
      intro a K o n h ha
      subst ha
      simpa [posB] using h
    rcases h3 with (((h3 | h3) | h3) | h3) | h3
    · left
      rw [Bool.and_eq_true] at h3
      obtain ⟨h3, h4⟩ := h3
      have h3 := Nat.eq_of_beq_eq_true h3
      have h4 := Nat.eq_of_beq_eq_true h4
      refine ⟨fun k hk => ?_, fun k hk => ?_⟩
      · have := mask_apart h3 k (by rw [maskN_bit]; simpa using hk)
        simp only [Nat.testBit_or, Bool.or_eq_false_iff, maskN_bit] at this
        exact ⟨by simpa using this.1, by simpa using this.2⟩
      · have := mask_apart h4 k (by rw [maskN_bit]; simpa using hk)
        rw [maskN_bit] at this
        simpa using this
    · right; left
      rw [Bool.and_eq_true, Bool.not_eq_true'] at h3
      obtain ⟨h3, h4⟩ := h3
      have h3 := Nat.eq_of_beq_eq_true h3
      cases hx : ex.ins with
      | none => rw [hx] at h4; simp at h4
      | some x =>
        obtain ⟨K, x⟩ := x
        cases hy : ei.ins with
        | none => rw [hx, hy] at h3; simp at h3
        | some y =>
          obtain ⟨K', y⟩ := y
          rw [hx, hy] at h3
          simp at h3
          subst h3
          exact ⟨_, _, _, rfl, rfl⟩
    · right; right; left
      rw [Bool.and_eq_true] at h3
      obtain ⟨K, o, n, o', n', h5, h6, h7⟩ := apartB_spec h3.1
      obtain ⟨vs, h8, rfl⟩ := sto h6
      exact ⟨K, o, n, o', vs, h5, h8, h7, pos h3.2 h5⟩
    · right; right; right; left
      rw [Bool.and_eq_true] at h3
      obtain ⟨K, o, n, o', n', h5, h6, h7⟩ := apartB_spec h3.1
      obtain ⟨vs, h8, rfl⟩ := sto h5
      exact ⟨K, o, vs, o', n', h8, h6, h7, pos h3.2 h6⟩
    · right; right; right; right
      obtain ⟨K, o, n, o', n', h5, h6, h7⟩ := apartB_spec h3
      obtain ⟨vs, h8, rfl⟩ := sto h5
      obtain ⟨vs', h9, rfl⟩ := sto h6
      exact ⟨K, o, vs, o', vs', h8, h9, h7⟩

theorem chk_of {s0 s : List SV × Mem} {hs : Nat → Nat → D} {dec : List (Nat × Bool)} {es : List Eff} {Fin : List SV × Mem → Prop}
    (hc : canonR P cs ops depth dec hs (List.range ops.size) s0 = .done s es) (hk : checkR ops depth (masks ops.toList []) es s.2 = true)
    (hp : ∀ e, e ∈ es → ∀ p, p ∈ e.ps → p) (hfin : Fin s) : Chk P cs ops depth s0 hs Fin := by
  rw [List.range_eq_range'] at hc
  let r : Nat → Eff := fun k => es.getD k ⟨[], .undef, [], none, none, none, none⟩
  obtain ⟨h1, h2, h3⟩ := canonR_spec hc r (fun k _ => by simp [r])
  rw [← List.range_eq_range'] at h2 h3
  simp only [checkR, Bool.and_eq_true] at hk
  obtain ⟨⟨k1, k2⟩, k3⟩ := hk
  have row : ∀ i, i < ops.size → (rowsFrom ops depth (masks ops.toList []) 0 es)[i]? = some (rowOf ops depth (masks ops.toList []) i (r i)) := fun i hi => by
    have := rowsFrom_get (ops := ops) (depth := depth) (ms := masks ops.toList []) (es := es) (i := 0) (k := i) (by omega)
    simpa [r] using this
  refine ⟨dec, r, h2, fun i hi p hpp => ?_, fun x i hxi hi hb => ?_, fun j i hj hi hij hb => ?_, ?_, by rw [h3]; exact hfin⟩
  · have hm : r i ∈ es := by
      simp only [r]
      rw [List.getD_eq_getElem?_getD, List.getElem?_eq_getElem (by omega)]
      simp
    exact hp _ hm p hpp
  · exact indep_of_pair (depth := depth) (pairsAll_spec (pre := []) k1 i x _ _ hxi (Nat.zero_le _) (by simpa using row i hi) (by simpa using row x (by omega))) hb
  · have h5 := namedAll_spec k2 j _ (row j hj)
    rw [Nat.zero_add] at h5
    have h6 := forb_bit (j := j) (b := rowOf ops depth (masks ops.toList []) j (r j)) (i := 0) (row i hi) (by omega) (by simpa [rowOf] using hb)
    intro hmem
    have h7 := mask_apart h5 (dstKey depth (dstOf ops i)) (by simp only [rowOf, maskN_bit]; simpa using hmem)
    simp only [rowOf] at h6 h7
    rw [h6] at h7
    cases h7
  · rw [h3]
    have := (distinct_spec k3).1
    rw [List.nodup_iff_pairwise_ne, List.pairwise_map] at this
    exact this

theorem checkS_spec {s : List SV × Mem} {rest : List SFrm} (h : checkS ops depth (masks ops.toList []) s rest = true) :
    (∀ i, i < ops.size → ∀ j, j ∈ predsOf ops i → j < i) ∧
    (∀ i, i < ops.size → dstKey depth (dstOf ops i) ∉ SV.keysL s.1 ∧ dstKey depth (dstOf ops i) ∉ Mem.named s.2 ∧ ∀ f, f ∈ rest → dstKey depth (dstOf ops i) ∉ SV.keysL f.tmps) := by
  simp only [checkS, Bool.and_eq_true] at h
  obtain ⟨h1, h2⟩ := h
  refine ⟨fun i hi j hj => ?_, fun i hi => ?_⟩
  · have hb := below_spec h1 i (by rw [masks_length]; simpa using hi)
    rw [Nat.zero_add] at hb
    have hbit : ((masks ops.toList []).getD i 0).testBit j = true := masks_direct hi hj
    rcases Nat.lt_or_ge j i with hlt | hge
    · exact hlt
    · have := Nat.testBit_lt_two_pow (x := (masks ops.toList []).getD i 0) (i := j) (Nat.lt_of_lt_of_le hb (Nat.pow_le_pow_right (by omega) hge))
      rw [hbit] at this
      cases this
  · have hm := Nat.eq_of_beq_eq_true h2
    have ho : ops.toList[i]? = some ops[i] := by simp [hi]
    have hk := keysMask_bit (depth := depth) ho
    have hd : dstOf ops i = ops[i].dst := by simp [dstOf, hi]
    rw [hd]
    have hno : dstKey depth ops[i].dst ∉ SV.keysL s.1 ++ Mem.named s.2 ++ rest.flatMap fun f => SV.keysL f.tmps := by
      intro hmem
      have := mask_apart hm _ (by rw [maskN_bit]; simpa using hmem)
      rw [hk] at this
      cases this
    simp only [List.mem_append, List.mem_flatMap, not_or, not_exists, not_and] at hno
    exact ⟨hno.1.1, hno.1.2, fun f hf => hno.2 f hf⟩
end
end Sx
end
section
/- A region whose order is drawn up to some place, and forced from there on. -/
namespace Sx
open Go RowKit

section
variable {P : Program} {ops : Array Oper} {Q : Exit → Act → World → Prop}

/-- From place n on each operation waits for all that stand before it; the guards and the waiting of those before n stay before n. -/
def forcedR (ops : Array Oper) (n : Nat) : Bool :=
  decide (n ≤ ops.size) &&
  (List.range ops.size).all (fun i => (predsOf ops i).all (fun j => decide (j < i)) &&
    (match ops[i]? with
     | some o => match o.guard with
       | some (g, _) => decide (g < i)
       | none => true
     | none => true)) &&
  (List.range ops.size).all fun i => decide (i < n) || (List.range i).all fun j => ((masks ops.toList []).getD i 0).testBit j

theorem forcedR_spec {n : Nat} (h : forcedR ops n = true) : n ≤ ops.size ∧ (∀ i, i < ops.size → ∀ j, j ∈ predsOf ops i → j < i) ∧
    (∀ (i : Nat) (o : Oper) (g : Nat) (b : Bool), ops[i]? = some o → o.guard = some (g, b) → g < i) ∧
    ∀ i, i < ops.size → n ≤ i → ∀ j, j < i → ((masks ops.toList []).getD i 0).testBit j = true := by
  unfold forcedR at h
  simp only [Bool.and_eq_true, decide_eq_true_eq, List.all_eq_true, List.mem_range, Bool.or_eq_true] at h
  obtain ⟨⟨h1, h2⟩, h3⟩ := h
  refine ⟨h1, fun i hi j hj => (h2 i hi).1 j hj, fun i o g b ho hg => ?_, fun i hi hn j hj => ?_⟩
  · have hi : i < ops.size := (Array.getElem?_eq_some_iff.1 ho).1
    have := (h2 i hi).2
    rw [ho] at this
    simp only [hg, decide_eq_true_eq] at this
    exact this
  · rcases h3 i hi with h | h
    · omega
    · exact h j hj

/-- What may come up next. -/
theorem ready_iff {l : List Nat} {listed : Array Bool} (hsz : listed.size = ops.size) (hl : ∀ j, j < ops.size → listed[j]? = some (l.contains j))
    (hlt : ∀ i, i < ops.size → ∀ j, j ∈ predsOf ops i → j < i) {i : Nat} : i ∈ Region.ready .any ops listed ↔ i < ops.size ∧ i ∉ l ∧ ∀ j, j ∈ predsOf ops i → j ∈ l := by
  rw [mem_ready]
  constructor
  · rintro ⟨h0, o, ho, hall⟩
    have hi' : i < ops.size := (Array.getElem?_eq_some_iff.1 ho).1
    refine ⟨hi', ?_, fun j hj => ?_⟩
    · have := hl i hi'
      simp only [Array.getD_eq_getD_getElem?, this, Option.getD_some] at h0
      simpa using h0
    · have hjlt := hlt i hi' j hj
      simp only [predsOf, ho, List.mem_map, List.mem_filter] at hj
      obtain ⟨e, ⟨he, hbe⟩, rfl⟩ := hj
      have h1 := hall e (by simpa using he) hbe
      simp only [Array.getD_eq_getD_getElem?, hl _ (by omega : e.on < ops.size), Option.getD_some] at h1
      simpa using h1
  · rintro ⟨hi, hil, hp⟩
    refine ⟨by simp [Array.getD_eq_getD_getElem?, hl i hi, hil], ops[i], by simp [hi], fun e he hb2 => ?_⟩
    have hpe : e.on ∈ predsOf ops i := by
      simp only [predsOf, Array.getElem?_eq_getElem hi, List.mem_map, List.mem_filter]
      exact ⟨e, ⟨by simpa using he, hb2⟩, rfl⟩
    have hlt' := hlt i hi _ hpe
    simp [Array.getD_eq_getD_getElem?, hl e.on (by omega), hp _ hpe]

theorem listed_step {l : List Nat} {listed : Array Bool} (hsz : listed.size = ops.size) (hl : ∀ j, j < ops.size → listed[j]? = some (l.contains j)) {i : Nat} (hi : i < ops.size) :
    (listed.setIfInBounds i true).size = ops.size ∧ ∀ j, j < ops.size → (listed.setIfInBounds i true)[j]? = some ((l ++ [i]).contains j) := by
  refine ⟨by simpa using hsz, fun j hj => ?_⟩
  by_cases hji : j = i
  · subst hji; simp [hsz, hj]
  · rw [Array.getElem?_setIfInBounds_ne (Ne.symm hji), hl j hj]
    simp [hji]

/-- The forced end. -/
theorem wpAny_tail (hlt : ∀ i, i < ops.size → ∀ j, j ∈ predsOf ops i → j < i) {n : Nat}
    (hm : ∀ i, i < ops.size → n ≤ i → ∀ j, j < i → ((masks ops.toList []).getD i 0).testBit j = true) :
    ∀ (fuel m : Nat) (l : List Nat) (listed : Array Bool) (a : Act) (w : World), m + fuel = ops.size → n ≤ m → Begun ops l → (∀ j, j ∈ l ↔ j < m) → listed.size = ops.size →
      (∀ j, j < ops.size → listed[j]? = some (l.contains j)) → wpOps P ops Q (List.range' m fuel) a w → wpAny P .any ops Q fuel listed a w := by
  intro fuel
  induction fuel with
  | zero =>
    intro m l listed a w hmf hn hb hmem hsz hl h
    refine ⟨?_, h⟩
    rw [List.eq_nil_iff_forall_not_mem]
    intro i hi
    obtain ⟨h1, h2, _⟩ := (ready_iff hsz hl hlt).1 hi
    exact h2 ((hmem i).2 (by omega))
  | succ fuel ih =>
    intro m l listed a w hmf hn hb hmem hsz hl h
    have hmlt : m < ops.size := by omega
    refine ⟨fun hnil => ?_, fun i hi => ?_⟩
    · have : m ∈ Region.ready .any ops listed := (ready_iff hsz hl hlt).2 ⟨hmlt, fun hh => by have := (hmem m).1 hh; omega, fun j hj => (hmem j).2 (hlt m hmlt j hj)⟩
      rw [hnil] at this; cases this
    · obtain ⟨h1, h2, h3⟩ := (ready_iff hsz hl hlt).1 hi
      have him : i = m := by
        have hge : ¬ i < m := fun hh => h2 ((hmem i).2 hh)
        rcases Nat.lt_or_ge m i with h4 | h4
        · have := masks_table i (by rw [masks_length]; simpa using h1) l hb h3 m (hm i h1 (by omega) m h4)
          have := (hmem m).1 this
          omega
        · omega
      subst him
      rw [List.range'_succ, wpOps_cons] at h
      obtain ⟨s1, s2⟩ := listed_step hsz hl h1
      refine wpOp_mono (fun a' w' h' => ih (i + 1) (l ++ [i]) _ a' w' (by omega) (by omega) (.snoc hb h2 h1 h3) (fun j => ?_) s1 s2 h') h
      rw [List.mem_append, hmem j, List.mem_singleton]
      omega

theorem extract_get {n : Nat} (hn : n ≤ ops.size) {i : Nat} (hi : i < n) : (ops.extract 0 n)[i]? = ops[i]? := by
  rw [Array.getElem?_extract]
  have : i < min n ops.size - 0 := by omega
  simp; omega

theorem preds_extract {n : Nat} (hn : n ≤ ops.size) {i : Nat} (hi : i < n) : predsOf (ops.extract 0 n) i = predsOf ops i := by
  unfold predsOf; rw [extract_get hn hi]

theorem wpOp_extract {n : Nat} (hn : n ≤ ops.size) {i : Nat} (hi : i < n) (hg : ∀ (i : Nat) (o : Oper) (g : Nat) (b : Bool), ops[i]? = some o → o.guard = some (g, b) → g < i) {Q' : Exit → Act → World → Prop}
    (hQ : ∀ e a w, Q' e a w → e = .normal) {K K' : Act → World → Prop} (hK : ∀ a w, K' a w → K a w) {a : Act} {w : World} (h : wpOp P (ops.extract 0 n) Q' i K' a w) : wpOp P ops Q i K a w := by
  unfold wpOp at h ⊢
  rw [extract_get hn hi] at h
  cases ho : ops[i]? with
  | none => rw [ho] at h; exact hK _ _ h
  | some o =>
    rw [ho] at h
    simp only at h ⊢
    have hy : Region.wanted o (yielded (ops.extract 0 n) a.tmps) = Region.wanted o (yielded ops a.tmps) := by
      unfold Region.wanted
      cases hgo : o.guard with
      | none => rfl
      | some gb =>
        obtain ⟨g, b⟩ := gb
        have := hg i o g b ho hgo
        simp only
        unfold yielded
        rw [extract_get hn (by omega)]
    rw [hy] at h
    split at h
    · rename_i hw
      simp only [hw, if_true]
      left
      rcases h with h | ⟨_, a2, w2, h2⟩
      · unfold Oper.wp at h ⊢
        generalize (execOp a.eval o).run P w = r at *
        cases r with
        | ok n w' =>
          cases n <;> simp only [Oper.upon] at h ⊢ <;>
            first
              | exact hK _ _ h
              | exact Calls.mono h (fun e w'' he => by cases e <;> first | exact hK _ _ he | exact absurd (hQ _ _ _ he) (by simp) | (obtain ⟨a2, w2, h2⟩ := he; exact absurd (hQ _ _ _ h2) (by simp)))
              | exact Rows.mono h (fun _ _ he => hK _ _ he)
              | exact absurd (hQ _ _ _ h) (by simp)
        | halt x w' => cases x <;> simp only [Oper.upon] at h ⊢ <;> first | exact h | exact absurd (hQ _ _ _ h) (by simp)
      · exact absurd (hQ _ _ _ h2) (by simp)
    · rename_i hw
      simp only [hw]
      exact hK _ _ h

theorem len_ge : ∀ (n : Nat) (l : List Nat), (∀ i, i < n → i ∈ l) → n ≤ l.length
  | 0, _, _ => Nat.zero_le _
  | n + 1, l, h => by
    have h1 := len_ge n (l.erase n) (fun i hi => (List.mem_erase_of_ne (by omega)).2 (h i (by omega)))
    rw [List.length_erase_of_mem (h n (by omega))] at h1
    have := List.length_pos_of_mem (h n (by omega))
    omega

/-- The drawn beginning. -/
theorem wpAny_head {n : Nat} (hf : forcedR ops n = true) {Q' : Exit → Act → World → Prop} (hQ : ∀ e a w, Q' e a w → e = .normal)
    (hfin : ∀ a w, Q' .normal a w → wpOps P ops Q (List.range' n (ops.size - n)) a w) :
    ∀ (fuel : Nat) (l : List Nat) (listed' listed : Array Bool) (a : Act) (w : World), fuel + l.length = n → Begun ops l → (∀ j, j ∈ l → j < n) →
      listed'.size = n → (∀ j, j < n → listed'[j]? = some (l.contains j)) → listed.size = ops.size → (∀ j, j < ops.size → listed[j]? = some (l.contains j)) →
      wpAny P .any (ops.extract 0 n) Q' fuel listed' a w → wpAny P .any ops Q (fuel + (ops.size - n)) listed a w := by
  obtain ⟨hn, hlt, hg, hm⟩ := forcedR_spec hf
  have hsz0 : (ops.extract 0 n).size = n := by simp; omega
  have hlt' : ∀ i, i < (ops.extract 0 n).size → ∀ j, j ∈ predsOf (ops.extract 0 n) i → j < i := by
    intro i hi j hj
    rw [hsz0] at hi
    rw [preds_extract hn hi] at hj
    exact hlt i (by omega) j hj
  intro fuel
  induction fuel with
  | zero =>
    intro l listed' listed a w hlen hb hln hs' hl' hsz hl h
    have hnod := hb.nodup.1
    have hfull : ∀ i, i < n → i ∈ l := full_of_len hnod hln (by omega)
    rw [Nat.zero_add]
    exact wpAny_tail hlt hm (ops.size - n) n l listed a w (by omega) (Nat.le_refl _) hb (fun j => ⟨hln j, hfull j⟩) hsz hl (hfin a w h.2)
  | succ fuel ih =>
    intro l listed' listed a w hlen hb hln hs' hl' hsz hl h
    rw [Nat.add_right_comm]
    have hnod := hb.nodup.1
    have hnotfull : ∃ i, i < n ∧ i ∉ l := by
      refine Classical.byContradiction fun hne => ?_
      have hall : ∀ i, i < n → i ∈ l := fun i hi => Classical.byContradiction fun h2 => hne ⟨i, hi, h2⟩
      have := len_ge n l hall
      omega
    refine ⟨fun hnil => ?_, fun i hi => ?_⟩
    · exfalso
      obtain ⟨i0, hi0, hil0⟩ := hnotfull
      have key : ∀ i, i < n → i ∈ l := by
        intro i
        induction i using Nat.strongRecOn with
        | _ i ihi =>
          intro hin
          refine Classical.byContradiction fun hil => ?_
          have : i ∈ Region.ready .any ops listed := (ready_iff hsz hl hlt).2 ⟨by omega, hil, fun j hj => ihi j (hlt i (by omega) j hj) (by have := hlt i (by omega) j hj; omega)⟩
          rw [hnil] at this; cases this
      exact hil0 (key i0 hi0)
    · obtain ⟨h1, h2, h3⟩ := (ready_iff hsz hl hlt).1 hi
      have hin : i < n := by
        refine Classical.byContradiction fun hge => ?_
        obtain ⟨i0, hi0, hil0⟩ := hnotfull
        exact hil0 (masks_table i (by rw [masks_length]; simpa using h1) l hb h3 i0 (hm i h1 (by omega) i0 (by omega)))
      have hr : i ∈ Region.ready .any (ops.extract 0 n) listed' :=
        (ready_iff (by rw [hs', hsz0]) (fun j hj => hl' j (by omega)) hlt').2 ⟨by omega, h2, fun j hj => by rw [preds_extract hn hin] at hj; exact h3 j hj⟩
      obtain ⟨s1, s2⟩ := listed_step hsz hl h1
      obtain ⟨t1, t2⟩ := listed_step (ops := ops.extract 0 n) (by rw [hs', hsz0]) (fun j hj => hl' j (by omega)) (by omega : i < (ops.extract 0 n).size)
      refine wpOp_extract hn hin hg hQ (fun a' w' h' => ih (l ++ [i]) _ _ a' w' (by simp; omega) (.snoc hb h2 h1 h3) (fun j hj => ?_) (by rw [t1, hsz0]) (fun j hj => t2 j (by omega)) s1 s2 h') (h.2 i hr)
      rcases List.mem_append.1 hj with hj | hj
      · exact hln j hj
      · rw [List.mem_singleton.1 hj]; exact hin

theorem wpOp_move {ops' : Array Oper} {i i' : Nat} (he : ops'[i']? = ops[i]?) (hg : ∀ (o : Oper) (g : Nat) (b : Bool), ops[i]? = some o → o.guard = some (g, b) → ops'[g]? = ops[g]?) {Q' : Exit → Act → World → Prop}
    (hQ : ∀ e a w, Q' e a w → e = .normal) {K K' : Act → World → Prop} (hK : ∀ a w, K' a w → K a w) {a : Act} {w : World} (h : wpOp P ops' Q' i' K' a w) : wpOp P ops Q i K a w := by
  unfold wpOp at h ⊢
  rw [he] at h
  cases ho : ops[i]? with
  | none => rw [ho] at h; exact hK _ _ h
  | some o =>
    rw [ho] at h
    simp only at h ⊢
    have hy : Region.wanted o (yielded ops' a.tmps) = Region.wanted o (yielded ops a.tmps) := by
      unfold Region.wanted
      cases hgo : o.guard with
      | none => rfl
      | some gb =>
        obtain ⟨g, b⟩ := gb
        simp only
        unfold yielded
        rw [hg o g b ho hgo]
    rw [hy] at h
    split at h
    · rename_i hw
      simp only [hw, if_true]
      left
      rcases h with h | ⟨_, a2, w2, h2⟩
      · unfold Oper.wp at h ⊢
        generalize (execOp a.eval o).run P w = r at *
        cases r with
        | ok n w' =>
          cases n <;> simp only [Oper.upon] at h ⊢ <;>
            first
              | exact hK _ _ h
              | exact Calls.mono h (fun e w'' he => by cases e <;> first | exact hK _ _ he | exact absurd (hQ _ _ _ he) (by simp) | (obtain ⟨a2, w2, h2⟩ := he; exact absurd (hQ _ _ _ h2) (by simp)))
              | exact Rows.mono h (fun _ _ he => hK _ _ he)
              | exact absurd (hQ _ _ _ h) (by simp)
        | halt x w' => cases x <;> simp only [Oper.upon] at h ⊢ <;> first | exact h | exact absurd (hQ _ _ _ h) (by simp)
      · exact absurd (hQ _ _ _ h2) (by simp)
    · rename_i hw
      simp only [hw]
      exact hK _ _ h

/-- Operations that give a value at once. -/
def valOp : Op → Bool
  | .move _ => true
  | .assign _ => true
  | .load .. => true
  | .binOp .. => true
  | .unOp .. => true
  | .convert .. => true
  | .extract .. => true
  | .fieldAddr .. => true
  | .indexAddr .. => true
  | .build .. => true
  | _ => false

theorem valOp_value {ev : Operand → Value} {o : Oper} {w w' : World} {nx : Next} (h : valOp o.op = true) (hr : (execOp ev o).run P w = .ok nx w') : ∃ v, nx = .value v := by
  have key : ∀ s : Sem Value, (do let v ← s; pure (.value v) : Sem Next).run P w = .ok nx w' → ∃ v, nx = .value v := by
    intro s hs
    rw [Sem.run_bind] at hs
    cases hq : s.run P w with
    | ok v w2 => rw [hq] at hs; simp only [Result.andThen_ok, Sem.run_pure, Result.ok.injEq] at hs; exact ⟨v, hs.1.symm⟩
    | halt x w2 => rw [hq] at hs; simp [Result.andThen] at hs
  obtain ⟨dst, op, type, pos, after, guard⟩ := o
  cases op <;> simp only [valOp, reduceCtorEq, Bool.false_eq_true] at h <;> simp only [execOp] at hr
  all_goals first
    | exact key _ hr
    | (simp only [Sem.run_pure, Result.ok.injEq] at hr; exact ⟨_, hr.1.symm⟩)

theorem wpOp_and {i : Nat} (hv : ∀ o, ops[i]? = some o → valOp o.op = true) {KA KB : Act → World → Prop} {a : Act} {w : World} (hA : wpOp P ops Q i KA a w) (hB : wpOp P ops Q i KB a w) :
    wpOp P ops Q i (fun a w => KA a w ∧ KB a w) a w := by
  unfold wpOp at hA hB ⊢
  cases ho : ops[i]? with
  | none => rw [ho] at hA hB; exact ⟨hA, hB⟩
  | some o =>
    rw [ho] at hA hB
    simp only at hA hB ⊢
    split at hA
    · rename_i hw
      simp only [hw, if_true] at hB ⊢
      rcases hA with hA | hA
      · rcases hB with hB | hB
        · left
          unfold Oper.wp at hA hB ⊢
          cases hr : (execOp a.eval o).run P w with
          | ok nx w' =>
            obtain ⟨v, rfl⟩ := valOp_value (hv o ho) hr
            rw [hr] at hA hB
            simp only [Oper.upon] at hA hB ⊢
            exact ⟨hA, hB⟩
          | halt x w' =>
            rw [hr] at hA
            cases x <;> simp only [Oper.upon] at hA ⊢ <;> exact hA
        · exact .inr hB
      · exact .inr hA
    · rename_i hw
      simp only [hw] at hB ⊢
      exact ⟨hA, hB⟩

/-- .. but for the operation behind n, that may come up at any time. -/
def floatR (ops : Array Oper) (n : Nat) : Bool :=
  ((ops.extract 0 n).toList.all fun o => valOp o.op) &&
  decide (n + 1 < ops.size) && (predsOf ops (n + 1)).isEmpty &&
  (match ops[n + 1]? with
   | some o => o.guard.isNone
   | none => false) &&
  (List.range ops.size).all (fun i => (predsOf ops i).all (fun j => decide (j < i)) &&
    (match ops[i]? with
     | some o => match o.guard with
       | some (g, _) => decide (g < i)
       | none => true
     | none => true)) &&
  (List.range ops.size).all fun i => decide (i < n) || decide (i = n + 1) || (List.range i).all fun j => ((masks ops.toList []).getD i 0).testBit j

theorem floatR_val {n : Nat} (h : floatR ops n = true) : ∀ i, i < n → ∀ o, ops[i]? = some o → valOp o.op = true := by
  unfold floatR at h
  simp only [Bool.and_eq_true, decide_eq_true_eq, List.all_eq_true] at h
  intro i hi o ho
  refine h.1.1.1.1.1 o ?_
  rw [Array.mem_toList_iff]
  exact Array.mem_of_getElem? (i := i) (by rw [extract_get (by omega) hi]; exact ho)

theorem floatR_spec {n : Nat} (h : floatR ops n = true) : n + 1 < ops.size ∧ predsOf ops (n + 1) = [] ∧ (∃ o, ops[n + 1]? = some o ∧ o.guard = none) ∧ (∀ i, i < ops.size → ∀ j, j ∈ predsOf ops i → j < i) ∧
    (∀ (i : Nat) (o : Oper) (g : Nat) (b : Bool), ops[i]? = some o → o.guard = some (g, b) → g < i) ∧
    ∀ i, i < ops.size → n ≤ i → i ≠ n + 1 → ∀ j, j < i → ((masks ops.toList []).getD i 0).testBit j = true := by
  unfold floatR at h
  simp only [Bool.and_eq_true, decide_eq_true_eq, List.all_eq_true, List.mem_range, Bool.or_eq_true, List.isEmpty_iff] at h
  obtain ⟨⟨⟨⟨⟨_, h1⟩, h5⟩, h6⟩, h2⟩, h3⟩ := h
  refine ⟨h1, h5, ?_, fun i hi j hj => ?_, fun i o g b ho hg => ?_, fun i hi hn hne j hj => ?_⟩
  · split at h6
    · rename_i o ho; exact ⟨o, ho, by simpa using h6⟩
    · cases h6
  · exact (h2 i hi).1 j hj
  · have hi : i < ops.size := (Array.getElem?_eq_some_iff.1 ho).1
    have := (h2 i hi).2
    rw [ho] at this
    simp only [hg, decide_eq_true_eq] at this
    exact this
  · rcases h3 i hi with (h | h) | h
    · omega
    · exact absurd h hne
    · exact h j hj

/-- The drawn beginning, with the floating operation behind it. -/
def opsF (ops : Array Oper) (n : Nat) : Array Oper := ops.extract 0 n ++ ops.extract (n + 1) (n + 2)

theorem opsF_size {n : Nat} (hn : n + 1 < ops.size) : (opsF ops n).size = n + 1 := by simp [opsF]; omega
theorem opsF_lt {n i : Nat} (hn : n + 1 < ops.size) (hi : i < n) : (opsF ops n)[i]? = ops[i]? := by
  unfold opsF
  rw [Array.getElem?_append_left (by simp; omega)]
  exact extract_get (by omega) hi
theorem opsF_n {n : Nat} (hn : n + 1 < ops.size) : (opsF ops n)[n]? = ops[n + 1]? := by
  unfold opsF
  have hs : (ops.extract 0 n).size = n := by simp; omega
  rw [Array.getElem?_append_right (by omega), hs, Nat.sub_self, Array.getElem?_extract]
  simp; omega

theorem predsF_lt {n i : Nat} (hn : n + 1 < ops.size) (hi : i < n) : predsOf (opsF ops n) i = predsOf ops i := by unfold predsOf; rw [opsF_lt hn hi]
theorem predsF_n {n : Nat} (hn : n + 1 < ops.size) (h0 : predsOf ops (n + 1) = []) : predsOf (opsF ops n) n = [] := by
  unfold predsOf at h0 ⊢; rw [opsF_n hn]; exact h0

section
variable {n : Nat} {QA QB : Exit → Act → World → Prop}

/-- The floating operation has come up. -/
theorem wpAny_floatA (hf : floatR ops n = true) (hQA : ∀ e a w, QA e a w → e = .normal) (hA : ∀ a w, QA .normal a w → wpOps P ops Q (n :: List.range' (n + 2) (ops.size - (n + 2))) a w) :
    ∀ (fuel : Nat) (l : List Nat) (listedA listed : Array Bool) (a : Act) (w : World), fuel + l.length = n + 1 → Begun ops l → (∀ j, j ∈ l → j < n ∨ j = n + 1) → n + 1 ∈ l →
      listedA.size = n + 1 → (∀ j, j < n → listedA[j]? = some (l.contains j)) → listedA[n]? = some true → listed.size = ops.size → (∀ j, j < ops.size → listed[j]? = some (l.contains j)) →
      wpAny P .any (opsF ops n) QA fuel listedA a w → wpAny P .any ops Q (fuel + (ops.size - (n + 1))) listed a w := by
  obtain ⟨hn, hp0, _, hlt, hg, hm⟩ := floatR_spec hf
  have hszF := opsF_size (ops := ops) hn
  have hltF : ∀ i, i < (opsF ops n).size → ∀ j, j ∈ predsOf (opsF ops n) i → j < i := by
    intro i hi j hj
    rw [hszF] at hi
    rcases Nat.lt_or_ge i n with h | h
    · rw [predsF_lt hn h] at hj; exact hlt i (by omega) j hj
    · have : i = n := by omega
      subst this; rw [predsF_n hn hp0] at hj; cases hj
  intro fuel
  induction fuel with
  | zero =>
    intro l listedA listed a w hlen hb hln hfl hs' hl' hln' hsz hl h
    have hfull : ∀ i, i < n → i ∈ l := by
      intro i hi
      have h1 : ∀ q, q ∈ l.map (fun x => if x = n + 1 then n else x) → q < n + 1 := by
        intro q hq
        obtain ⟨x, hx, rfl⟩ := List.mem_map.1 hq
        rcases hln x hx with h | h <;> split <;> omega
      have h2 : (l.map (fun x => if x = n + 1 then n else x)).Nodup := by
        rw [List.nodup_iff_pairwise_ne, List.pairwise_map]
        refine hb.nodup.1.imp_of_mem ?_
        intro x y hx hy hne e
        apply hne
        by_cases hx1 : x = n + 1 <;> by_cases hy1 : y = n + 1
        · omega
        · rw [if_pos hx1, if_neg hy1] at e; rcases hln y hy with h | h <;> omega
        · rw [if_neg hx1, if_pos hy1] at e; rcases hln x hx with h | h <;> omega
        · rw [if_neg hx1, if_neg hy1] at e; exact e
      have := full_of_len h2 h1 (by rw [List.length_map]; omega) i (by omega)
      obtain ⟨x, hx, hxe⟩ := List.mem_map.1 this
      split at hxe
      · omega
      · rw [← hxe]; exact hx
    rw [Nat.zero_add, show ops.size - (n + 1) = (ops.size - (n + 2)) + 1 by omega]
    have hnl : n ∉ l := fun hh => by rcases hln n hh with h | h <;> omega
    refine ⟨fun hnil => ?_, fun i hi => ?_⟩
    · have : n ∈ Region.ready .any ops listed := (ready_iff hsz hl hlt).2 ⟨by omega, hnl, fun j hj => hfull j (hlt n (by omega) j hj)⟩
      rw [hnil] at this; cases this
    · obtain ⟨h1, h2, h3⟩ := (ready_iff hsz hl hlt).1 hi
      have him : i = n := by
        rcases Nat.lt_trichotomy i n with h4 | h4 | h4
        · exact absurd (hfull i h4) h2
        · exact h4
        · by_cases h5 : i = n + 1
          · subst h5; exact absurd hfl h2
          · exact absurd (masks_table i (by rw [masks_length]; simpa using h1) l hb h3 n (hm i h1 (by omega) h5 n h4)) hnl
      subst him
      have hw := hA a w h.2
      rw [wpOps_cons] at hw
      obtain ⟨s1, s2⟩ := listed_step hsz hl h1
      refine wpOp_mono (fun a' w' h' => wpAny_tail hlt (n := i + 2) (fun q hq hge j hj => hm q hq (by omega) (by omega) j hj) (ops.size - (i + 2)) (i + 2) (l ++ [i]) _ a' w' (by omega) (Nat.le_refl _) (.snoc hb h2 h1 h3) (fun j => ?_) s1 s2 h') hw
      rw [List.mem_append, List.mem_singleton]
      constructor
      · rintro (h | h)
        · rcases hln j h with h | h <;> omega
        · omega
      · intro h
        rcases Nat.lt_trichotomy j i with h' | h' | h'
        · exact .inl (hfull j h')
        · exact .inr h'
        · have : j = i + 1 := by omega
          subst this; exact .inl hfl
  | succ fuel ih =>
    intro l listedA listed a w hlen hb hln hfl hs' hl' hln' hsz hl h
    rw [Nat.add_right_comm]
    have hnot : ∃ i, i < n ∧ i ∉ l := by
      refine Classical.byContradiction fun hne => ?_
      have hall : ∀ i, i < n → i ∈ l.erase (n + 1) := fun i hi => (List.mem_erase_of_ne (by omega)).2 (Classical.byContradiction fun h2 => hne ⟨i, hi, h2⟩)
      have := len_ge n _ hall
      rw [List.length_erase_of_mem hfl] at this
      have := List.length_pos_of_mem hfl
      omega
    have hnl : n ∉ l := fun hh => by rcases hln n hh with h | h <;> omega
    refine ⟨fun hnil => ?_, fun i hi => ?_⟩
    · exfalso
      obtain ⟨i0, hi0, hil0⟩ := hnot
      have key : ∀ i, i < n → i ∈ l := by
        intro i
        induction i using Nat.strongRecOn with
        | _ i ihi =>
          intro hin
          refine Classical.byContradiction fun hil => ?_
          have : i ∈ Region.ready .any ops listed := (ready_iff hsz hl hlt).2 ⟨by omega, hil, fun j hj => ihi j (hlt i (by omega) j hj) (by have := hlt i (by omega) j hj; omega)⟩
          rw [hnil] at this; cases this
      exact hil0 (key i0 hi0)
    · obtain ⟨h1, h2, h3⟩ := (ready_iff hsz hl hlt).1 hi
      have hin : i < n := by
        refine Classical.byContradiction fun hge => ?_
        obtain ⟨i0, hi0, hil0⟩ := hnot
        by_cases h5 : i = n + 1
        · subst h5; exact h2 hfl
        · exact hil0 (masks_table i (by rw [masks_length]; simpa using h1) l hb h3 i0 (hm i h1 (by omega) h5 i0 (by omega)))
      have hlA : ∀ j, j < (opsF ops n).size → listedA[j]? = some ((l.map (fun x => if x = n + 1 then n else x)).contains j) := by
        intro j hj
        rw [hszF] at hj
        rcases Nat.lt_or_ge j n with hjn | hjn
        · rw [hl' j hjn]
          congr 1
          rw [Bool.eq_iff_iff, List.contains_iff_mem, List.contains_iff_mem, List.mem_map]
          constructor
          · intro hh; exact ⟨j, hh, by rw [if_neg (by omega)]⟩
          · rintro ⟨x, hx, hxe⟩
            split at hxe
            · omega
            · rw [← hxe]; exact hx
        · have : j = n := by omega
          subst this
          rw [hln']
          congr 1
          symm
          rw [List.contains_iff_mem, List.mem_map]
          exact ⟨j + 1, hfl, by simp⟩
      have hr : i ∈ Region.ready .any (opsF ops n) listedA :=
        (ready_iff (by rw [hs', hszF]) hlA hltF).2 ⟨by omega, fun hh => by
          obtain ⟨x, hx, hxe⟩ := List.mem_map.1 hh
          split at hxe
          · omega
          · exact h2 (hxe ▸ hx), fun j hj => by
          rw [predsF_lt hn hin] at hj
          exact List.mem_map.2 ⟨j, h3 j hj, by have := hlt i h1 j hj; rw [if_neg (by omega)]⟩⟩
      obtain ⟨s1, s2⟩ := listed_step hsz hl h1
      refine wpOp_move (opsF_lt hn hin) (fun o g b ho hgo => opsF_lt hn (by have := hg i o g b ho hgo; omega)) hQA (fun a' w' h' => ih (l ++ [i]) _ _ a' w' (by simp; omega) (.snoc hb h2 h1 h3) (fun j hj => ?_) (List.mem_append_left _ hfl) (by simpa using hs') (fun j hj => ?_) ?_ s1 s2 h') (h.2 i hr)
      · rcases List.mem_append.1 hj with hj | hj
        · exact hln j hj
        · rw [List.mem_singleton.1 hj]; exact .inl hin
      · by_cases hji : j = i
        · subst hji
          rw [Array.getElem?_setIfInBounds_self_of_lt (by omega)]; simp
        · rw [Array.getElem?_setIfInBounds_ne (Ne.symm hji), hl' j hj]; simp [hji]
      · rw [Array.getElem?_setIfInBounds_ne (by omega)]; exact hln'

/-- All orders, if the floating operation comes before the call, and if it comes behind it. -/
theorem wpAny_float (hf : floatR ops n = true) (hQA : ∀ e a w, QA e a w → e = .normal) (hQB : ∀ e a w, QB e a w → e = .normal)
    (hA : ∀ a w, QA .normal a w → wpOps P ops Q (n :: List.range' (n + 2) (ops.size - (n + 2))) a w)
    (hB : ∀ a w, QB .normal a w → wpOps P ops Q (List.range' n (ops.size - n)) a w) :
    ∀ (fuel : Nat) (l : List Nat) (listedA listedB listed : Array Bool) (a : Act) (w : World), fuel + l.length = n → Begun ops l → (∀ j, j ∈ l → j < n) →
      listedA.size = n + 1 → (∀ j, j < n → listedA[j]? = some (l.contains j)) → listedA[n]? = some false → listedB.size = n → (∀ j, j < n → listedB[j]? = some (l.contains j)) →
      listed.size = ops.size → (∀ j, j < ops.size → listed[j]? = some (l.contains j)) →
      wpAny P .any (opsF ops n) QA (fuel + 1) listedA a w → wpAny P .any (ops.extract 0 n) QB fuel listedB a w → wpAny P .any ops Q (fuel + (ops.size - n)) listed a w := by
  obtain ⟨hn, hp0, ⟨of, hof, hofg⟩, hlt, hg, hm⟩ := floatR_spec hf
  have hszF := opsF_size (ops := ops) hn
  have hszB : (ops.extract 0 n).size = n := by simp; omega
  have hltF : ∀ i, i < (opsF ops n).size → ∀ j, j ∈ predsOf (opsF ops n) i → j < i := by
    intro i hi j hj
    rw [hszF] at hi
    rcases Nat.lt_or_ge i n with h | h
    · rw [predsF_lt hn h] at hj; exact hlt i (by omega) j hj
    · have : i = n := by omega
      subst this; rw [predsF_n hn hp0] at hj; cases hj
  have hltB : ∀ i, i < (ops.extract 0 n).size → ∀ j, j ∈ predsOf (ops.extract 0 n) i → j < i := by
    intro i hi j hj
    rw [hszB] at hi
    rw [preds_extract (by omega) hi] at hj
    exact hlt i (by omega) j hj
  intro fuel
  -- the floating operation comes up
  have floats : ∀ (fuel : Nat) (l : List Nat) (listedA listed : Array Bool) (a : Act) (w : World), fuel + l.length = n → Begun ops l → (∀ j, j ∈ l → j < n) →
      listedA.size = n + 1 → (∀ j, j < n → listedA[j]? = some (l.contains j)) → listedA[n]? = some false → listed.size = ops.size → (∀ j, j < ops.size → listed[j]? = some (l.contains j)) →
      wpAny P .any (opsF ops n) QA (fuel + 1) listedA a w → wpOp P ops Q (n + 1) (wpAny P .any ops Q (fuel + (ops.size - (n + 1))) (listed.setIfInBounds (n + 1) true)) a w := by
    intro fuel l listedA listed a w hlen hb hln hsA hlA hlAn hsz hl h
    have hfl : n + 1 ∉ l := fun hh => by have := hln _ hh; omega
    have hnl : n ∉ l := fun hh => by have := hln _ hh; omega
    have hlA' : ∀ j, j < (opsF ops n).size → listedA[j]? = some (l.contains j) := by
      intro j hj
      rw [hszF] at hj
      rcases Nat.lt_or_ge j n with hjn | hjn
      · exact hlA j hjn
      · have : j = n := by omega
        subst this; rw [hlAn]; simp [hnl]
    have hr : n ∈ Region.ready .any (opsF ops n) listedA := (ready_iff (by rw [hsA, hszF]) hlA' hltF).2 ⟨by omega, hnl, fun j hj => by rw [predsF_n hn hp0] at hj; cases hj⟩
    obtain ⟨s1, s2⟩ := listed_step hsz hl hn
    refine wpOp_move (opsF_n hn) (fun o g b ho hgo => by rw [hof] at ho; cases ho; rw [hofg] at hgo; cases hgo) hQA
      (fun a' w' h' => wpAny_floatA hf hQA hA fuel (l ++ [n + 1]) _ _ a' w' (by simp; omega) (.snoc hb hfl hn (fun j hj => by rw [hp0] at hj; cases hj)) (fun j hj => ?_) (by simp) (by simpa using hsA) (fun j hj => ?_) ?_ s1 s2 h') (h.2 n hr)
    · rcases List.mem_append.1 hj with hj | hj
      · exact .inl (hln j hj)
      · exact .inr (List.mem_singleton.1 hj)
    · rw [Array.getElem?_setIfInBounds_ne (by omega), hlA j hj]
      have : j ≠ n + 1 := by omega
      simp [this]
    · simp [hsA]
  induction fuel with
  | zero =>
    intro l listedA listedB listed a w hlen hb hln hsA hlA hlAn hsB hlB hsz hl h hB'
    have hfull : ∀ i, i < n → i ∈ l := full_of_len hb.nodup.1 hln (by omega)
    have hnl : n ∉ l := fun hh => by have := hln _ hh; omega
    rw [Nat.zero_add, show ops.size - n = (ops.size - (n + 1)) + 1 by omega]
    refine ⟨fun hnil => ?_, fun i hi => ?_⟩
    · have : n ∈ Region.ready .any ops listed := (ready_iff hsz hl hlt).2 ⟨by omega, hnl, fun j hj => hfull j (hlt n (by omega) j hj)⟩
      rw [hnil] at this; cases this
    · obtain ⟨h1, h2, h3⟩ := (ready_iff hsz hl hlt).1 hi
      have him : i = n ∨ i = n + 1 := by
        rcases Nat.lt_trichotomy i n with h4 | h4 | h4
        · exact absurd (hfull i h4) h2
        · exact .inl h4
        · by_cases h5 : i = n + 1
          · exact .inr h5
          · exact absurd (masks_table i (by rw [masks_length]; simpa using h1) l hb h3 n (hm i h1 (by omega) h5 n h4)) hnl
      rcases him with rfl | rfl
      · -- the call; then the floating one
        have hw := hB a w hB'.2
        rw [show ops.size - i = (ops.size - (i + 1)) + 1 by omega, List.range'_succ, wpOps_cons] at hw
        obtain ⟨s1, s2⟩ := listed_step hsz hl h1
        have hb1 : Begun ops (l ++ [i]) := .snoc hb h2 h1 h3
        have hmem1 : ∀ j, j ∈ l ++ [i] ↔ j < i + 1 := fun j => by
          rw [List.mem_append, List.mem_singleton]
          exact ⟨fun h => by rcases h with h | h; · have := hln j h; omega
                             · omega, fun h => by rcases Nat.lt_or_ge j i with h' | h'; · exact .inl (hfull j h')
                                                  · exact .inr (by omega)⟩
        refine wpOp_mono (fun a' w' h' => ?_) hw
        rw [show ops.size - (i + 1) = (ops.size - (i + 2)) + 1 by omega] at h' ⊢
        rw [List.range'_succ, wpOps_cons] at h'
        refine ⟨fun hnil => ?_, fun q hq => ?_⟩
        · have : i + 1 ∈ Region.ready .any ops (listed.setIfInBounds i true) := (ready_iff s1 s2 hlt).2 ⟨hn, fun hh => by have := (hmem1 _).1 hh; omega, fun j hj => by rw [hp0] at hj; cases hj⟩
          rw [hnil] at this; cases this
        · obtain ⟨q1, q2, q3⟩ := (ready_iff s1 s2 hlt).1 hq
          have hqi : q = i + 1 := by
            have hge : ¬ q < i + 1 := fun hh => q2 ((hmem1 q).2 hh)
            refine Classical.byContradiction fun hne => ?_
            have := masks_table q (by rw [masks_length]; simpa using q1) _ hb1 q3 (i + 1) (hm q q1 (by omega) hne (i + 1) (by omega))
            have := (hmem1 _).1 this
            omega
          subst hqi
          obtain ⟨u1, u2⟩ := listed_step s1 s2 q1
          refine wpOp_mono (fun a'' w'' h'' => wpAny_tail hlt (n := i + 2) (fun q hq hge j hj => hm q hq (by omega) (by omega) j hj) (ops.size - (i + 2)) (i + 2) (l ++ [i] ++ [i + 1]) _ a'' w'' (by omega) (Nat.le_refl _)
            (.snoc hb1 q2 q1 q3) (fun j => ?_) u1 u2 h'') h'
          rw [List.mem_append, hmem1, List.mem_singleton]; omega
      · have := floats 0 l listedA listed a w (by omega) hb hln hsA hlA hlAn hsz hl h
        rwa [Nat.zero_add] at this
  | succ fuel ih =>
    intro l listedA listedB listed a w hlen hb hln hsA hlA hlAn hsB hlB hsz hl h hB'
    have hnl : n ∉ l := fun hh => by have := hln _ hh; omega
    have hnot : ∃ i, i < n ∧ i ∉ l := by
      refine Classical.byContradiction fun hne => ?_
      have hall : ∀ i, i < n → i ∈ l := fun i hi => Classical.byContradiction fun h2 => hne ⟨i, hi, h2⟩
      have := len_ge n l hall
      omega
    rw [Nat.add_right_comm]
    refine ⟨fun hnil => ?_, fun i hi => ?_⟩
    · exfalso
      obtain ⟨i0, hi0, hil0⟩ := hnot
      have key : ∀ i, i < n → i ∈ l := by
        intro i
        induction i using Nat.strongRecOn with
        | _ i ihi =>
          intro hin
          refine Classical.byContradiction fun hil => ?_
          have : i ∈ Region.ready .any ops listed := (ready_iff hsz hl hlt).2 ⟨by omega, hil, fun j hj => ihi j (hlt i (by omega) j hj) (by have := hlt i (by omega) j hj; omega)⟩
          rw [hnil] at this; cases this
      exact hil0 (key i0 hi0)
    · obtain ⟨h1, h2, h3⟩ := (ready_iff hsz hl hlt).1 hi
      by_cases h5 : i = n + 1
      · subst h5
        have := floats (fuel + 1) l listedA listed a w (by omega) hb hln hsA hlA hlAn hsz hl h
        rwa [show fuel + 1 + (ops.size - (n + 1)) = fuel + (ops.size - n) by omega] at this
      · have hin : i < n := by
          refine Classical.byContradiction fun hge => ?_
          obtain ⟨i0, hi0, hil0⟩ := hnot
          exact hil0 (masks_table i (by rw [masks_length]; simpa using h1) l hb h3 i0 (hm i h1 (by omega) h5 i0 (by omega)))
        have hlA' : ∀ j, j < (opsF ops n).size → listedA[j]? = some (l.contains j) := by
          intro j hj
          rw [hszF] at hj
          rcases Nat.lt_or_ge j n with hjn | hjn
          · exact hlA j hjn
          · have : j = n := by omega
            subst this; rw [hlAn]; simp [hnl]
        have hrA : i ∈ Region.ready .any (opsF ops n) listedA := (ready_iff (by rw [hsA, hszF]) hlA' hltF).2 ⟨by omega, h2, fun j hj => by rw [predsF_lt hn hin] at hj; exact h3 j hj⟩
        have hrB : i ∈ Region.ready .any (ops.extract 0 n) listedB :=
          (ready_iff (by rw [hsB, hszB]) (fun j hj => hlB j (by omega)) hltB).2 ⟨by omega, h2, fun j hj => by rw [preds_extract (by omega) hin] at hj; exact h3 j hj⟩
        -- both go on
        have kA := h.2 i hrA
        have kB := hB'.2 i hrB
        obtain ⟨s1, s2⟩ := listed_step hsz hl h1
        have kA' : wpOp P ops Q i (fun a' w' => wpAny P .any (opsF ops n) QA (fuel + 1) (listedA.setIfInBounds i true) a' w') a w :=
          wpOp_move (opsF_lt hn hin) (fun o g b ho hgo => opsF_lt hn (by have := hg i o g b ho hgo; omega)) hQA (fun _ _ h => h) kA
        have kB' : wpOp P ops Q i (fun a' w' => wpAny P .any (ops.extract 0 n) QB fuel (listedB.setIfInBounds i true) a' w') a w :=
          wpOp_move (extract_get (by omega) hin) (fun o g b ho hgo => extract_get (by omega) (by have := hg i o g b ho hgo; omega)) hQB (fun _ _ h => h) kB
        refine wpOp_mono (fun a' w' h' => ?_) (wpOp_and (floatR_val hf i hin) kA' kB')
        refine ih (l ++ [i]) _ _ _ a' w' (by simp; omega) (.snoc hb h2 h1 h3) (fun j hj => ?_) (by simpa using hsA) (fun j hj => ?_) ?_ (by simpa using hsB) (fun j hj => ?_) s1 s2 h'.1 h'.2
        · rcases List.mem_append.1 hj with hj | hj
          · exact hln j hj
          · rw [List.mem_singleton.1 hj]; exact hin
        · by_cases hji : j = i
          · subst hji
            rw [Array.getElem?_setIfInBounds_self_of_lt (by omega)]; simp
          · rw [Array.getElem?_setIfInBounds_ne (Ne.symm hji), hlA j hj]; simp [hji]
        · rw [Array.getElem?_setIfInBounds_ne (by omega)]; exact hlAn
        · by_cases hji : j = i
          · subst hji
            rw [Array.getElem?_setIfInBounds_self_of_lt (by omega)]; simp
          · rw [Array.getElem?_setIfInBounds_ne (Ne.symm hji), hlB j hj]; simp [hji]
end
end
end Sx
end
