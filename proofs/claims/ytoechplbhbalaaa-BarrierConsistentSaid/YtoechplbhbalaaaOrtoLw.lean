/- One order of a region is walked; the others come to the same: what an operation looks at and what it changes. -/
import Derived.Test.YtoechplbhbalaaaAtoDr
set_option linter.all false
section
namespace Sx
open Go RowKit

mutual
def SV.keys : SV → List Nat
 | .vec k => [k]
 | .ptr k _ => [k]
 | .velt k _ _ _ => [k]
 | .mapp k => [k]
 | .agg l => SV.keysL l
 | .tup l => SV.keysL l
 | .fn _ a c => SV.keysL a ++ SV.keysL c
 | _ => []
def SV.keysL : List SV → List Nat
 | [] => []
 | x :: r => SV.keys x ++ SV.keysL r
end

mutual
theorem SV.has_of_keys {k : Nat} : ∀ x : SV, k ∉ x.keys → x.has k = false
 | .vec j, h => by simp only [SV.keys, List.mem_singleton] at h; simp [SV.has, Ne.symm h]
 | .ptr j _, h => by simp only [SV.keys, List.mem_singleton] at h; simp [SV.has, Ne.symm h]
 | .velt j _ _ _, h => by simp only [SV.keys, List.mem_singleton] at h; simp [SV.has, Ne.symm h]
 | .mapp j, h => by simp only [SV.keys, List.mem_singleton] at h; simp [SV.has, Ne.symm h]
 | .agg l, h => by simp only [SV.keys] at h; simp only [SV.has]; exact SV.hasL_of_keys l h
 | .tup l, h => by simp only [SV.keys] at h; simp only [SV.has]; exact SV.hasL_of_keys l h
 | .fn _ a c, h => by
  simp only [SV.keys, List.mem_append, not_or] at h
  simp only [SV.has, SV.hasL_of_keys a h.1, SV.hasL_of_keys c h.2, Bool.or_self]
 | .int .., _ => by simp [SV.has]
 | .bool _, _ => by simp [SV.has]
 | .lb _, _ => by simp [SV.has]
 | .str _, _ => by simp [SV.has]
 | .nils, _ => by simp [SV.has]
 | .dat _, _ => by simp [SV.has]
 | .elt .., _ => by simp [SV.has]
 | .nilp, _ => by simp [SV.has]
 | .nilf, _ => by simp [SV.has]
 | .undef, _ => by simp [SV.has]
 | .junk _, _ => by simp [SV.has]
 | .raw _, _ => by simp [SV.has]
theorem SV.hasL_of_keys {k : Nat} : ∀ l : List SV, k ∉ SV.keysL l → SV.hasL k l = false
 | [], _ => by simp [SV.hasL]
 | x :: r, h => by
  simp only [SV.keysL, List.mem_append, not_or] at h
  simp only [SV.hasL, SV.has_of_keys x h.1, SV.hasL_of_keys r h.2, Bool.or_self]
end

theorem SV.mem_keysL {k : Nat} : ∀ {l : List SV}, k ∈ SV.keysL l ↔ ∃ x, x ∈ l ∧ k ∈ x.keys
 | [] => by simp [SV.keysL]
 | x :: r => by simp [SV.keysL, SV.mem_keysL (l := r)]

def OBlk.keys : OBlk → List Nat
 | .cells _ cs => SV.keysL cs
 | .map es => es.flatMap fun e => e.1.keys ++ e.2.keys
 | _ => []

theorem OBlk.has_of_keys {k : Nat} {o : OBlk} (h : k ∉ o.keys) : o.has k = false := by
 cases o with
 | cells t cs => exact SV.hasL_of_keys cs h
 | map es =>
  simp only [OBlk.keys, List.mem_flatMap, List.mem_append, not_exists, not_and, not_or] at h
  simp only [OBlk.has, List.any_eq_false, Bool.or_eq_true, not_or, Bool.not_eq_true]
  intro e he
  exact ⟨SV.has_of_keys _ (h e he).1, SV.has_of_keys _ (h e he).2⟩
 | arr e d => rfl
 | pub d => rfl
def Mem.named (m : Mem) : List Nat := m.flatMap fun e => e.1 :: e.2.keys

theorem Mem.has_of_named {k : Nat} {m : Mem} (h : k ∉ Mem.named m) : Mem.has k m = false := by
 simp only [Mem.named, List.mem_flatMap, List.mem_cons, not_exists, not_and, not_or] at h
 simp only [Mem.has, List.any_eq_false, Bool.or_eq_true, beq_iff_eq, not_or, Bool.not_eq_true]
 intro e he
 exact ⟨fun e' => (h e he).1 e'.symm, OBlk.has_of_keys (h e he).2⟩
def maskN : List Nat → Nat
 | [] => 0
 | k :: r => 2 ^ k ||| maskN r

theorem maskN_bit (k : Nat) : ∀ l : List Nat, (maskN l).testBit k = l.contains k
 | [] => by simp [maskN]
 | j :: r => by
  simp only [maskN, Nat.testBit_or, Nat.testBit_two_pow, maskN_bit k r, List.contains_cons]
  congr 1
  by_cases h : j = k
  ·subst h; simp
  ·simp [h, Ne.symm h]

theorem mask_apart {a b : Nat} (h : (a &&& b) = 0) (k : Nat) (ha : a.testBit k = true) : b.testBit k = false := by
 have : (a &&& b).testBit k = false := by rw [h]; simp
 rw [Nat.testBit_and, ha, Bool.true_and] at this
 exact this
def pickM (m : Mem) (T : List Nat) : Mem := T.filterMap fun k => (m.get k).map fun o => (k, o)

def dropM (m : Mem) (T : List Nat) : Mem := m.filter fun e => !T.contains e.1

theorem Mem.get_append (a b : Mem) (k : Nat) : Mem.get (a ++ b) k = (Mem.get a k).or (Mem.get b k) := by
 induction a with
 | nil => simp [Mem.get]
 | cons x r ih =>
  obtain ⟨j, o⟩ := x
  simp only [List.cons_append, Mem.get]
  split
  ·simp
  ·exact ih

theorem Mem.get_drop (m : Mem) (T : List Nat) (k : Nat) : Mem.get (dropM m T) k = if k ∈ T then none else m.get k := by
 induction m with
 | nil => simp [dropM, Mem.get]
 | cons x r ih =>
  obtain ⟨j, o⟩ := x
  unfold dropM at ih ⊢
  simp only [List.filter_cons]
  by_cases hj : T.contains j = true
  ·simp only [hj, Bool.not_true, Bool.false_eq_true, if_false, ih, Mem.get]
   by_cases hk : k ∈ T
   ·simp [hk]
   ·have : j ≠ k := fun e => hk (by subst e; simpa using hj)
    simp [hk, this]
  ·simp only [hj, Bool.not_false, if_true, Mem.get, ih]
   by_cases hjk : j = k
   ·subst hjk
    have : j ∉ T := by simpa using hj
    simp [this]
   ·simp [hjk]

theorem Mem.get_none {m : Mem} {k : Nat} (h : k ∉ m.map (·.1)) : m.get k = none := by
 cases hg : m.get k with
 | none => rfl
 | some o => exact absurd (List.mem_map.2 ⟨_, Mem.get_mem hg, rfl⟩) h

theorem pickM_congr {m m' : Mem} {T : List Nat} (h : ∀ k, k ∈ T → m.get k = m'.get k) : pickM m T = pickM m' T := by
 unfold pickM
 induction T with
 | nil => rfl
 | cons x r ih =>
  simp only [List.filterMap_cons]
  rw [h x List.mem_cons_self, ih fun k hk => h k (List.mem_cons_of_mem _ hk)]

theorem pickM_mem {m : Mem} {T : List Nat} {x : Nat × OBlk} (h : x ∈ pickM m T) : x ∈ m ∧ x.1 ∈ T := by
 simp only [pickM, List.mem_filterMap, Option.map_eq_some_iff] at h
 obtain ⟨k, hk, o, ho, rfl⟩ := h
 exact ⟨Mem.get_mem ho, hk⟩

theorem Mem.get_of_mem {m : Mem} (hp : m.Pairwise fun x y => x.1 ≠ y.1) {k : Nat} {o : OBlk} (h : (k, o) ∈ m) : m.get k = some o := by
 cases hg : m.get k with
 | none =>
  exfalso
  induction m with
  | nil => cases h
  | cons x r ih =>
   obtain ⟨j, p⟩ := x
   simp only [Mem.get] at hg
   split at hg
   ·cases hg
   ·rename_i hj
    rcases List.mem_cons.1 h with h | h
    ·cases h; simp at hj
    ·exact ih (List.pairwise_cons.1 hp).2 h hg
 | some p => exact congrArg some (Mem.unique hp (Mem.get_mem hg) h)

theorem pickM_keys {m : Mem} : ∀ {T : List Nat}, T.Nodup → (pickM m T).Pairwise fun x y => x.1 ≠ y.1
 | [], _ => by simp [pickM]
 | k :: r, h => by
  simp only [List.nodup_cons] at h
  have ih := pickM_keys (m := m) h.2
  unfold pickM at ih ⊢
  simp only [List.filterMap_cons]
  cases hg : m.get k with
  | none => simpa [hg] using ih
  | some o =>
   simp only [Option.map_some, List.pairwise_cons]
   refine ⟨fun x hx => ?_, ih⟩
   have := (pickM_mem (m := m) (T := r) (by unfold pickM; exact hx)).2
   exact fun e => h.1 (by simpa [e] using this)
theorem Good.cut {C : Ctx} {m : Mem} {E : Env} {H : HV} {w : World} {T : List Nat} (hT : T.Nodup) (g : Good C m E H w) : Good C (pickM m T ++ dropM m T) E H w := by
 have hin : ∀ x, x ∈ pickM m T ++ dropM m T → x ∈ m := by
  intro x hx
  rcases List.mem_append.1 hx with h | h
  ·exact (pickM_mem h).1
  ·exact (List.mem_filter.1 h).1
 refine ⟨g.below, g.ext, g.fresh, g.cell, fun k o h => g.own k o (hin _ h), ?_, fun x y hx hy => g.apart x y (hin x hx) (hin y hy)⟩
 rw [List.pairwise_append]
 refine ⟨pickM_keys hT, g.keys.sublist List.filter_sublist, fun x hx y hy => ?_⟩
 have h1 := (pickM_mem hx).2
 have h2 := (List.mem_filter.1 hy).2
 intro e
 rw [← e] at h2
 simp [h1] at h2

theorem Mem.get_pick (m : Mem) (T : List Nat) (k : Nat) : Mem.get (pickM m T) k = if k ∈ T then m.get k else none := by
 induction T with
 | nil => simp [pickM, Mem.get]
 | cons j r ih =>
  unfold pickM at ih ⊢
  simp only [List.filterMap_cons]
  by_cases hj : j = k
  ·subst hj
   cases hg : m.get j with
   | none => simp only [Option.map_none, ih, hg]; simp
   | some o => simp only [Option.map_some, Mem.get]; simp
  ·have hj' : (j == k) = false := by simpa using hj
   cases hg : m.get j with
   | none => simp only [Option.map_none, ih]; simp [Ne.symm hj]
   | some o => simp only [Option.map_some, Mem.get, hj', Bool.false_eq_true, if_false, ih]; simp [Ne.symm hj]

theorem Mem.get_cut (m : Mem) (T : List Nat) (k : Nat) : Mem.get (pickM m T ++ dropM m T) k = m.get k := by
 rw [Mem.get_append, Mem.get_pick, Mem.get_drop]
 by_cases hk : k ∈ T <;> simp [hk]
theorem Good.alike {C : Ctx} {m m' : Mem} {E : Env} {H : HV} {w : World} (g : Good C m E H w) (h : ∀ k, m.get k = m'.get k) (hk : m'.Pairwise fun x y => x.1 ≠ y.1) : Good C m' E H w := by
 have hin : ∀ x, x ∈ m' → x ∈ m := by
  intro x hx
  have := Mem.get_of_mem hk (k := x.1) (o := x.2) hx
  rw [← h] at this
  exact Mem.get_mem this
 exact ⟨g.below, g.ext, g.fresh, g.cell, fun k o h => g.own k o (hin _ h), hk, fun x y hx hy => g.apart x y (hin x hx) (hin y hy)⟩
inductive GD where
 | yes (ps : List Prop)
 | no (ps : List Prop)
 | ask (t : Nat) (b : Bool)
 | bad

def decOf : List (Nat × Bool) → Nat → Option Bool
 | [], _ => none
 | (j, b) :: r, t => if j == t then some b else decOf r t

def guardD (dec : List (Nat × Bool)) (ops : Array Oper) (o : Oper) (tmps : List SV) : GD :=
 match o.guard with
 | none => .yes []
 | some (j, want) =>
  match (ops[j]?).bind (·.dst) with
  | none => .bad
  | some t => match tmps[t]? with
   | some (.lb b) => if b == want then .yes [] else .no []
   | some (.bool b) => match decOf dec t with
    | some d => if d == want then .yes [b = d] else .no [b = d]
    | none => .ask t b
   | some .undef => .no []
   | _ => .bad

theorem guardD_spec {E : Env} {dec : List (Nat × Bool)} {ops : Array Oper} {o : Oper} {tmps : List SV} {ps : List Prop} (hp : ∀ p, p ∈ ps → p) :
  (guardD dec ops o tmps = .yes ps → Region.wanted o (yielded ops (SV.denL E tmps).toArray) = true) ∧
  (guardD dec ops o tmps = .no ps → Region.wanted o (yielded ops (SV.denL E tmps).toArray) = false) := by
 unfold guardD Region.wanted
 cases hg : o.guard with
 | none => simp
 | some x =>
  obtain ⟨j, want⟩ := x
  simp only
  cases hd : (ops[j]?).bind (·.dst) with
  | none => simp
  | some t =>
   simp only [yielded, hd, Option.bind_some]
   have e : ((SV.denL E tmps).toArray)[t]? = (tmps[t]?).map (SV.den E) := by simp [SV.denL_eq]
   rw [e]
   cases ht : tmps[t]? with
   | none => simp
   | some v =>
    cases v <;> simp [SV.den, Go.undef]
    case lb b => cases b <;> cases want <;> simp
    case bool b =>
     cases hdec : decOf dec t with
     | none => simp
     | some d =>
      constructor
      ·intro h
       simp only at h
       split at h
       ·rename_i hdw
        cases h
        have := hp _ (List.mem_singleton.2 rfl)
        rw [this, hdw]
       ·cases h
      ·intro h
       simp only at h
       split at h
       ·cases h
       ·rename_i hdw
        cases h
        have := hp _ (List.mem_singleton.2 rfl)
        rw [this]; exact hdw
structure Eff where
 ps : List Prop
 v : SV
 T : List Nat
 out : Option Mem
 ins : Option (Nat × IntKind × Int × SV)
 st : Option (Nat × Nat × List SV) := none
 ld : Option (Nat × Nat × Nat) := none

inductive StepR where
 | ok (e : Eff)
 | ask (t : Nat) (b : Bool)
 | bad

theorem addN_nodup {x : Nat} {l : List Nat} (h : l.Nodup) : (addN x l).Nodup := by
 unfold addN
 split
 ·exact h
 ·rename_i hc; exact List.nodup_cons.2 ⟨by simpa using hc, h⟩

theorem addNs_nodup : ∀ {xs l : List Nat}, l.Nodup → (addNs xs l).Nodup
 | [], _, h => h
 | x :: r, l, h => by
  show (addN x (addNs r l)).Nodup
  exact addN_nodup (addNs_nodup h)
def memless : Op → Bool
 | .move _ => true
 | .assign _ => true
 | .build .. => true
 | .nilCheck _ => true
 | .unOp .. => true
 | .extract .. => true
 | .fieldAddr .. => true
 | .makeFunc .. => true
 | _ => false

def keysOp (tmps : List SV) (op : Op) : List Nat :=
 match memless op with
 | true => []
 | false => addNs (SV.keysL (op.operands.toList.map (evS tmps))) []

theorem keysOp_nodup (tmps : List SV) (op : Op) : (keysOp tmps op).Nodup := by
 unfold keysOp
 split
 ·exact List.nodup_nil
 ·exact addNs_nodup List.nodup_nil

section
variable (P : Program) (cs : Ctrs) (ops : Array Oper) (depth : Nat)
def outS (x : Option (List Prop × SV × Mem)) : Option (List Prop × SV × Option Mem) :=
 match x with
 | some (ps, v, m') => some (ps, v, some m')
 | none => none
def outC (m : Mem) (x : Option (List Prop × SV × Mem)) : Option (List Prop × SV × Option Mem) :=
 match x with
 | some (ps, v, m') => match roM m && keysEq m' m with
  | true => some (ps, v, none)
  | false => some (ps, v, some m')
 | none => none

def runOp (tmps : List SV) (key : Nat) (hs : Nat → D) (op : Op) (m : Mem) : Option (List Prop × SV × Option Mem) :=
 match quickOp op with
 | true => match opr P (evS tmps) m 0 op with
  | .val ps v _ => some (ps, v, none)
  | _ => none
 | false => match op with
   | .call cl => match calleeOf (evS tmps) cl.callee with
    | some (f, first, captured) => match cs.find f with
     | some ctr => outC m (outOf (ctr (first ++ cl.args.toList.map (evS tmps) ++ captured) key m) hs)
     | none => none
    | none => outS (outOf (opr P (evS tmps) m key op) hs)
   | _ => outS (outOf (opr P (evS tmps) m key op) hs)

def pickD (dec : List (Nat × Bool)) (tmps : List SV) (t : Nat) (x y : Operand) (ps : List Prop) : StepR :=
 match tmps[t]? with
 | some (.lb d) => .ok ⟨ps, if d then evS tmps x else evS tmps y, [], none, none, none, none⟩
 | some (.bool b) => match decOf dec t with
  | some d => .ok ⟨ps ++ [b = d], if d then evS tmps x else evS tmps y, [], none, none, none, none⟩
  | none => .ask t b
 | _ => .bad
def lookD (dec : List (Nat × Bool)) (base : Nat) (T : List Nat) (d : SV) : Nat → List (Bool × SV) → List Prop → StepR
 | _, [], ps => .ok ⟨ps, d, T, none, none, none, none⟩
 | j, (b, v) :: r, ps => match decOf dec (base + j) with
  | some true => .ok ⟨ps ++ [b = true], v, T, none, none, none, none⟩
  | some false => lookD dec base T d (j + 1) r (ps ++ [b = false])
  | none => .ask (base + j) b

def stepR (dec : List (Nat × Bool)) (hs : Nat → Nat → D) (s : List SV × Mem) (i : Nat) : StepR :=
 match ops[i]? with
 | none => .bad
 | some o =>
  match guardD dec ops o s.1 with
  | .bad => .bad
  | .ask t b => .ask t b
  | .no ps => .ok ⟨ps, .undef, [], none, none, none, none⟩
  | .yes ps =>
   match o.op with
   | .pick (.tmp t) x y => pickD dec s.1 t x y ps
   | .lookup t x j ok => match lookR P (pickM s.2 (keysOp s.1 (.lookup t x j ok))) t (evS s.1 x) (evS s.1 j) ok with
    | some (l, d) => lookD dec (1000000 + 100 * i) (keysOp s.1 (.lookup t x j ok)) d 0 l ps
    | none => .bad
   | .store t a x => match evS s.1 a with
    | .ptr K off => match (evS s.1 x).cells?, sizeT P t, s.2.get K with
     | some vs, some n, some (.cells _ cs) => if vs.length = n ∧ off + n ≤ cs.length ∧ vs.all SV.one = true then .ok ⟨ps, .undef, [K], none, none, some (K, off, vs), none⟩ else .bad
     | _, _, _ => .bad
    | _ => match runOp P cs s.1 (dstKey depth o.dst) (hs i) (.store t a x) (pickM s.2 (keysOp s.1 (.store t a x))) with
     | some (qs, v, out) => .ok ⟨ps ++ qs, v, keysOp s.1 (.store t a x), out, none, none, none⟩
     | none => .bad
   | .load t a => match runOp P cs s.1 (dstKey depth o.dst) (hs i) (.load t a) (pickM s.2 (keysOp s.1 (.load t a))) with
    | some (qs, v, none) => .ok ⟨ps ++ qs, v, keysOp s.1 (.load t a), none, none, none, match evS s.1 a, sizeT P t with | .ptr K off, some n => some (K, off, n) | _, _ => none⟩
    | _ => .bad
   | .insert t x j v => match insOk P s.2 t (evS s.1 x) (evS s.1 j) with
    | some (K, k, n) => .ok ⟨ps, .undef, [K], none, some (K, k, n, evS s.1 v), none, none⟩
    | none => .bad
   | op => match runOp P cs s.1 (dstKey depth o.dst) (hs i) op (pickM s.2 (keysOp s.1 op)) with
    | some (qs, v, out) => .ok ⟨ps ++ qs, v, keysOp s.1 op, out, none, none, none⟩
    | none => .bad

def dstOf (i : Nat) : Option Tmp := (ops[i]?).bind (·.dst)

def updC (off : Nat) (vs : List SV) : OBlk → OBlk
 | .cells t cs => .cells t (cs.take off ++ vs ++ cs.drop (off + vs.length))
 | o => o
def Eff.at (e : Eff) (k : Nat) (o : Option OBlk) : Option OBlk :=
 match e.st with
 | some (K, off, vs) => if k = K then o.map (updC off vs) else o
 | none => match e.ins with
  | some (K, kd, n, v) => if k = K then o.map (insO kd n v) else o
  | none => match e.out with
   | none => o
   | some m => (Mem.get m k).or (if k ∈ e.T then none else o)

def Eff.mem (e : Eff) (m : Mem) : Mem :=
 match e.st with
 | some (K, off, vs) => match m.get K with
  | some o => m.set K (updC off vs o)
  | none => m
 | none => match e.ins with
  | some (K, kd, n, v) => match m.get K with
   | some o => m.set K (insO kd n v o)
   | none => m
  | none => match e.out with
   | none => m
   | some m' => m' ++ dropM m e.T

def applyR (s : List SV × Mem) (i : Nat) (e : Eff) : List SV × Mem := (putS s.1 (dstOf ops i) e.v, e.mem s.2)
end

theorem Mem.get_set {m : Mem} {K : Nat} {o o' : OBlk} (hg : m.get K = some o) (k : Nat) : (m.set K o').get k = if k = K then some o' else m.get k := by
 induction m with
 | nil => cases hg
 | cons x r ih =>
  obtain ⟨j, p⟩ := x
  simp only [Mem.get] at hg
  simp only [Mem.set]
  by_cases hj : j = K
  ·subst hj
   simp only [beq_self_eq_true, if_true, Mem.get]
   by_cases hk : k = j
   ·simp [hk]
   ·simp [hk, Ne.symm hk]
  ·have hj' : (j == K) = false := by simpa using hj
   simp only [hj', Bool.false_eq_true, if_false] at hg ⊢
   simp only [Mem.get]
   by_cases hk : j = k
   ·subst hk; simp [hj]
   ·have hk' : (j == k) = false := by simpa using hk
    simp only [hk', Bool.false_eq_true, if_false]
    exact ih hg

theorem Eff.mem_get (e : Eff) (m : Mem) (k : Nat) : (e.mem m).get k = e.at k (m.get k) := by
 unfold Eff.mem Eff.at
 have upd : ∀ (K : Nat) (f : OBlk → OBlk), (match m.get K with | some o => m.set K (f o) | none => m).get k = if k = K then (m.get k).map f else m.get k := by
  intro K f
  cases hg : m.get K with
  | none =>
   by_cases hk : k = K
   ·subst hk; simp [hg]
   ·simp [hk]
  | some o =>
   simp only [Mem.get_set hg]
   by_cases hk : k = K
   ·subst hk; simp [hg]
   ·simp [hk]
 cases hs : e.st with
 | some x =>
  obtain ⟨K, off, vs⟩ := x
  exact upd K (updC off vs)
 | none =>
  simp only
  cases hi : e.ins with
  | some x =>
   obtain ⟨K, kd, n, v⟩ := x
   exact upd K (insO kd n v)
  | none =>
   simp only
   cases ho : e.out with
   | none => rfl
   | some m' => simp only [Mem.get_append, Mem.get_drop]

theorem lookD_ok {dec : List (Nat × Bool)} {base : Nat} {T : List Nat} {d : SV} : ∀ {l : List (Bool × SV)} {j : Nat} {ps : List Prop} {e : Eff}, lookD dec base T d j l ps = .ok e →
  (∀ p, p ∈ ps → p ∈ e.ps) ∧ e.T = T ∧ (e.out = none ∧ e.ins = none ∧ e.st = none) ∧ ((∀ p, p ∈ e.ps → p) → e.v = pickA d l)
 | [], _, _, _, h => by cases h; exact ⟨fun _ h => h, rfl, ⟨rfl, rfl, rfl⟩, fun _ => rfl⟩
 | (b, v) :: r, j, ps, e, h => by
  simp only [lookD] at h
  split at h
  ·cases h
   refine ⟨fun p hp => List.mem_append_left _ hp, rfl, ⟨rfl, rfl, rfl⟩, fun hp => ?_⟩
   have : b = true := hp _ (by simp)
   subst this; rfl
  ·obtain ⟨h1, h2, h3, h4⟩ := lookD_ok h
   refine ⟨fun p hp => h1 p (List.mem_append_left _ hp), h2, h3, fun hp => ?_⟩
   have : b = false := hp _ (h1 _ (by simp))
   subst this
   exact h4 hp
  ·cases h

theorem lookD_ld {dec : List (Nat × Bool)} {base : Nat} {T : List Nat} {d : SV} : ∀ {l : List (Bool × SV)} {j : Nat} {ps : List Prop} {e : Eff}, lookD dec base T d j l ps = .ok e → e.ld = none
 | [], _, _, _, h => by cases h; rfl
 | (b, v) :: r, j, ps, e, h => by
  simp only [lookD] at h
  split at h
  ·cases h; rfl
  ·exact lookD_ld h
  ·cases h

theorem lookD_det {dec dec' : List (Nat × Bool)} {base : Nat} {T : List Nat} {d : SV} : ∀ {l : List (Bool × SV)} {j : Nat} {ps : List Prop} {e e' : Eff}, lookD dec base T d j l ps = .ok e → lookD dec' base T d j l ps = .ok e' →
  (∀ p, p ∈ e.ps → p) → (∀ p, p ∈ e'.ps → p) → e = e'
 | [], _, _, _, _, h, h', _, _ => by cases h; cases h'; rfl
 | (b, v) :: r, j, ps, e, e', h, h', hp, hp' => by
  simp only [lookD] at h h'
  split at h
  ·cases h
   have hb : b = true := hp _ (by simp)
   split at h'
   ·cases h'; rfl
   ·have := hp' _ ((lookD_ok h').1 (b = false) (by simp)); rw [hb] at this; cases this
   ·cases h'
  ·have hb : b = false := hp _ ((lookD_ok h).1 (b = false) (by simp))
   split at h'
   ·cases h'
    have : b = true := hp' _ (by simp)
    rw [hb] at this; cases this
   ·exact lookD_det h h' hp hp'
   ·cases h'
  ·cases h
def Eff.wr (e : Eff) : List Nat :=
 match e.st with
 | some (K, _) => [K]
 | none => match e.ins with
  | some (K, _) => [K]
  | none => match e.out with
   | none => []
   | some m => m.map (·.1) ++ e.T

def Eff.named (e : Eff) : List Nat :=
 e.v.keys ++ (match e.out with
  | none => []
  | some m => Mem.named m) ++ (match e.ins with
  | none => []
  | some (K, _, _, v) => K :: v.keys) ++ match e.st with
  | none => []
  | some (K, _, vs) => K :: SV.keysL vs

theorem Eff.at_other {e : Eff} {k : Nat} (h : k ∉ e.wr) (o : Option OBlk) : e.at k o = o := by
 unfold Eff.at
 unfold Eff.wr at h
 cases hs : e.st with
 | some x =>
  obtain ⟨K, off, vs⟩ := x
  simp only [hs, List.mem_singleton] at h
  simp [h]
 | none =>
  simp only [hs] at h
  cases hi : e.ins with
  | some x =>
   obtain ⟨K, kd, n, v⟩ := x
   simp only [hi, List.mem_singleton] at h
   simp [h]
  | none =>
   simp only [hi] at h
   cases ho : e.out with
   | none => rfl
   | some m =>
    simp only [ho, List.mem_append, not_or] at h
    simp only [Mem.get_none h.1, h.2, if_false, Option.none_or]
def Alike (s t : List SV × Mem) : Prop := s.1 = t.1 ∧ ∀ k, s.2.get k = t.2.get k
theorem Alike.refl (s : List SV × Mem) : Alike s s := ⟨rfl, fun _ => rfl⟩
theorem Alike.symm {s t : List SV × Mem} (h : Alike s t) : Alike t s := ⟨h.1.symm, fun k => (h.2 k).symm⟩
theorem Alike.trans {s t u : List SV × Mem} (h : Alike s t) (h' : Alike t u) : Alike s u := ⟨h.1.trans h'.1, fun k => (h.2 k).trans (h'.2 k)⟩

section
variable {P : Program} {cs : Ctrs} {ops : Array Oper} {depth : Nat}

theorem applyR_alike {s t : List SV × Mem} {i : Nat} {e : Eff} (h : Alike s t) : Alike (applyR ops s i e) (applyR ops t i e) := by
 refine ⟨by simp only [applyR, h.1], fun k => ?_⟩
 simp only [applyR, Eff.mem_get, h.2 k]

theorem opr_congr {ev ev' : Operand → SV} {op : Op} (h : ∀ x, x ∈ op.operands → ev x = ev' x) (m : Mem) (key : Nat) : opr P ev m key op = opr P ev' m key op := by
 have pairs : ∀ ps : Array (Nat × Operand), (∀ x, x ∈ (ps.toList.map (·.2)).toArray → ev x = ev' x) →
   (ps.toList.map fun x => (x.1, ev x.2)) = ps.toList.map fun x => (x.1, ev' x.2) := fun ps hp =>
  List.map_congr_left fun p hm => by rw [hp p.2 (by simp; exact ⟨p.1, by simpa using hm⟩)]
 have vals : ∀ ps : Array (Nat × Operand), (∀ x, x ∈ (ps.toList.map (·.2)).toArray → ev x = ev' x) →
   (ps.toList.map fun x => ev x.2) = ps.toList.map fun x => ev' x.2 := fun ps hp =>
  List.map_congr_left fun p hm => by rw [hp p.2 (by simp; exact ⟨p.1, by simpa using hm⟩)]
 cases op <;> simp only [Op.operands] at h <;> simp only [opr]
 case build t ps => rw [pairs ps h]
 case buildSlice t n ps => rw [pairs ps h, vals ps h]
 case makeFunc fn first captured =>
  cases fn with
  | func f =>
   have h1 : first.toList.map ev = first.toList.map ev' := List.map_congr_left fun x hx => h x (by simp only [Array.mem_append]; left; simpa using hx)
   have h2 : captured.toList.map ev = captured.toList.map ev' := List.map_congr_left fun x hx => h x (by simp only [Array.mem_append]; right; simpa using hx)
   simp only [h1, h2]
  | _ => rfl
 case call c =>
  obtain ⟨callee, args, tys⟩ := c
  simp only [Call.operands] at h
  cases callee with
  | builtin b =>
   have ha : ∀ x, x ∈ args.toList → ev x = ev' x := fun x hx => h x (by simpa using hx)
   simp only
   unfold callB
   split
   ·rename_i x t he _; rw [he] at ha; rw [ha x (by simp)]
   ·rename_i s x t t' he _; rw [he] at ha; unfold appR; rw [ha s (by simp), ha x (by simp)]
   ·rename_i _ x y he; rw [he] at ha; rw [ha x (by simp), ha y (by simp)]
   ·rename_i _ x y he; rw [he] at ha; rw [ha x (by simp), ha y (by simp)]
   ·rfl
  | _ => rfl
 case makeMap t r => cases r <;> rfl
 case slice t x lo hi mx =>
  have hx : ev x = ev' x := h x (by simp)
  have h1 : lo.map ev = lo.map ev' := by cases lo with | none => rfl | some y => simp [h y (by simp)]
  have h2 : hi.map ev = hi.map ev' := by cases hi with | none => rfl | some y => simp [h y (by simp)]
  have h3 : mx.map ev = mx.map ev' := by cases mx with | none => rfl | some y => simp [h y (by simp)]
  rw [hx, h1, h2, h3]
 all_goals (first | rfl | (simp_all; done))

theorem evS_congr {t t' : List SV} {x : Operand} (h : ∀ k, x = .tmp k → t[k]? = t'[k]?) : evS t x = evS t' x := by
 cases x with
 | tmp k => simp only [evS, List.getD_eq_getElem?_getD, h k rfl]
 | _ => rfl
end
end Sx
end
section
namespace Sx
open Go RowKit

section
variable {P : Program} {cs : Ctrs} {ops : Array Oper} {depth : Nat}

theorem calleeOf_congr {ev ev' : Operand → SV} {cl : Call} (h : ∀ x, x ∈ cl.operands → ev x = ev' x) : calleeOf ev cl.callee = calleeOf ev' cl.callee := by
 obtain ⟨callee, args, tys⟩ := cl
 cases callee with
 | value x =>
  simp only [calleeOf]
  rw [h x (by simp [Call.operands])]
 | _ => rfl

theorem runOp_congr {t t' : List SV} {op : Op} (h : ∀ x, x ∈ op.operands → evS t x = evS t' x) (key : Nat) (hs : Nat → D) (m : Mem) :
  runOp P cs t key hs op m = runOp P cs t' key hs op m := by
 unfold runOp
 have h0 : ∀ m key, opr P (evS t) m key op = opr P (evS t') m key op := fun m key => opr_congr h m key
 cases hq : quickOp op with
 | true => simp only [h0]
 | false =>
  simp only
  cases op
  case call cl =>
   have h1 := calleeOf_congr (cl := cl) (ev := evS t) (ev' := evS t') (fun x hx => h x (by simpa [Op.operands] using hx))
   have h2 : cl.args.toList.map (evS t) = cl.args.toList.map (evS t') :=
    List.map_congr_left fun x hx => h x (by simp only [Op.operands, Call.operands, Array.mem_append]; right; simpa using hx)
   simp only [h1, h2, h0]
  all_goals simp only [h0]

theorem keysOp_congr {t t' : List SV} {op : Op} (h : ∀ x, x ∈ op.operands → evS t x = evS t' x) : keysOp t op = keysOp t' op := by
 unfold keysOp
 split
 ·rfl
 ·rw [List.map_congr_left (g := evS t') fun x hx => h x (by simpa using hx)]

theorem guardD_congr {dec : List (Nat × Bool)} {o : Oper} {t t' : List SV} (h : ∀ k, k ∈ usesOp ops o → t[k]? = t'[k]?) : guardD dec ops o t = guardD dec ops o t' := by
 unfold guardD
 cases hg : o.guard with
 | none => rfl
 | some x =>
  obtain ⟨j, want⟩ := x
  simp only
  cases hd : (ops[j]?).bind (·.dst) with
  | none => rfl
  | some k => simp only; rw [h k (by simp [usesOp, hg, hd])]

theorem uses_eval {o : Oper} {t t' : List SV} (h : ∀ k, k ∈ usesOp ops o → t[k]? = t'[k]?) : ∀ x, x ∈ o.op.operands → evS t x = evS t' x := by
 intro x hx
 refine evS_congr fun k hk => h k ?_
 subst hk
 exact List.mem_append_left _ (List.mem_filterMap.2 ⟨.tmp k, by simpa using hx, rfl⟩)

theorem stepR_congr {dec : List (Nat × Bool)} {hs hs' : Nat → Nat → D} {s s' : List SV × Mem} {i : Nat} {o : Oper} {e : Eff} (ho : ops[i]? = some o) (hh : hs i = hs' i)
  (ht : ∀ k, k ∈ usesOp ops o → s.1[k]? = s'.1[k]?) (h : stepR P cs ops depth dec hs s i = .ok e) (hm : ∀ k, k ∈ e.T → s.2.get k = s'.2.get k) :
  stepR P cs ops depth dec hs' s' i = .ok e := by
 have hev := uses_eval (o := o) ht
 unfold stepR at h ⊢
 simp only [ho] at h ⊢
 rw [← guardD_congr ht]
 split at h
 ·cases h
 ·cases h
 ·exact h
 ·rename_i ps hg
  split at h
  ·rename_i t x y hop
   unfold pickD at h ⊢
   have h1 : s.1[t]? = s'.1[t]? := ht t (List.mem_append_left _ (List.mem_filterMap.2 ⟨.tmp t, by rw [hop]; simp [Op.operands], rfl⟩))
   rw [hop] at hev
   rw [← h1, ← hev x (by simp [Op.operands]), ← hev y (by simp [Op.operands])]
   exact h
  ·rename_i t x j ok hop
   rw [hop] at hev
   have e1 : keysOp s.1 (.lookup t x j ok) = keysOp s'.1 (.lookup t x j ok) := keysOp_congr hev
   split at h
   ·rename_i l d hlk
    have e3 : pickM s.2 (keysOp s.1 (.lookup t x j ok)) = pickM s'.2 (keysOp s'.1 (.lookup t x j ok)) := by
     rw [← e1]; refine pickM_congr fun k hk => hm k ?_
     rw [(lookD_ok h).2.1]; exact hk
    rw [← hev x (by simp [Op.operands]), ← hev j (by simp [Op.operands]), ← e3, hlk, ← e1]
    exact h
   ·cases h
  ·rename_i t a x hop
   rw [hop] at hev
   have e0 : evS s.1 a = evS s'.1 a := hev a (by simp [Op.operands])
   have e0' : evS s.1 x = evS s'.1 x := hev x (by simp [Op.operands])
   rw [← e0, ← e0']
   split at h
   ·split at h
    ·rename_i vs n ty cs h1 h2 hb
     split at h
     ·rename_i hc
      cases h
      rw [← hm _ (by simp), h1, h2, hb]
      exact if_pos hc
     ·cases h
    ·cases h
   ·have e1 : keysOp s.1 (.store t a x) = keysOp s'.1 (.store t a x) := keysOp_congr hev
    have e2 : ∀ m, runOp P cs s.1 (dstKey depth o.dst) (hs i) (.store t a x) m = runOp P cs s'.1 (dstKey depth o.dst) (hs' i) (.store t a x) m := fun m => by rw [hh]; exact runOp_congr hev _ _ _
    split at h
    ·rename_i qs v out hr
     cases h
     have e3 : pickM s.2 (keysOp s.1 (.store t a x)) = pickM s'.2 (keysOp s'.1 (.store t a x)) := by rw [← e1]; exact pickM_congr hm
     rw [e2, e3] at hr
     simp only [hr, e1]
    ·cases h
  ·rename_i t a hop
   rw [hop] at hev
   have e0 : evS s.1 a = evS s'.1 a := hev a (by simp [Op.operands])
   have e1 : keysOp s.1 (.load t a) = keysOp s'.1 (.load t a) := keysOp_congr hev
   have e2 : ∀ m, runOp P cs s.1 (dstKey depth o.dst) (hs i) (.load t a) m = runOp P cs s'.1 (dstKey depth o.dst) (hs' i) (.load t a) m := fun m => by rw [hh]; exact runOp_congr hev _ _ _
   split at h
   ·rename_i qs v hr
    cases h
    have e3 : pickM s.2 (keysOp s.1 (.load t a)) = pickM s'.2 (keysOp s'.1 (.load t a)) := by rw [← e1]; exact pickM_congr hm
    rw [e2, e3] at hr
    rw [hr, ← e1, ← e0]
   ·cases h
  ·rename_i t x j v hop
   rw [hop] at hev
   split at h
   ·rename_i K k n hins
    cases h
    obtain ⟨kt, et, es, h1, h2, h3, h4, h5, h6⟩ := insOk_spec hins
    rw [← hev x (by simp [Op.operands]), ← hev j (by simp [Op.operands]), ← hev v (by simp [Op.operands]),
     insOk_of h1 h2 h3 h4 (by rw [← hm K (by simp)]; exact h5) h6]
   ·cases h
  ·rename_i hnp
   have e1 : keysOp s.1 o.op = keysOp s'.1 o.op := keysOp_congr hev
   have e2 : ∀ m, runOp P cs s.1 (dstKey depth o.dst) (hs i) o.op m = runOp P cs s'.1 (dstKey depth o.dst) (hs' i) o.op m := fun m => by rw [hh]; exact runOp_congr hev _ _ _
   split at h
   ·rename_i qs v out hr
    cases h
    have e3 : pickM s.2 (keysOp s.1 o.op) = pickM s'.2 (keysOp s'.1 o.op) := by rw [← e1]; exact pickM_congr hm
    rw [e2, e3] at hr
    simp only [hr, e1]
   ·cases h

theorem putS_get {tmps : List SV} {d : Option Tmp} {v : SV} {t : Nat} (h : ∀ k, d = some k → k ≠ t) : (putS tmps d v)[t]? = tmps[t]? := by
 cases d with
 | none => rfl
 | some k => simp only [putS]; rw [List.getElem?_set_ne (h k rfl)]

theorem putS_comm {tmps : List SV} {a b : Option Tmp} {v u : SV} (h : ∀ k, a = some k → b ≠ some k) : putS (putS tmps a v) b u = putS (putS tmps b u) a v := by
 cases a with
 | none => rfl
 | some k =>
  cases b with
  | none => rfl
  | some j =>
   simp only [putS]
   exact List.set_comm _ _ fun e => h k rfl (by rw [e])
theorem applyR_get {s : List SV × Mem} {i : Nat} {e : Eff} {k : Nat} (h : k ∉ e.wr) : (applyR ops s i e).2.get k = s.2.get k := by
 simp only [applyR, Eff.mem_get, Eff.at_other h]

def usesAt (ops : Array Oper) (i : Nat) : List Nat :=
 match ops[i]? with
 | some o => usesOp ops o
 | none => []
def Apart (o n o' n' : Nat) : Prop := o + n ≤ o' ∨ o' + n' ≤ o
def CellApart (ei ej : Eff) : Prop :=
 (∃ K o n o' vs, ei.ld = some (K, o, n) ∧ ej.st = some (K, o', vs) ∧ Apart o n o' vs.length ∧ 0 < n) ∨
 (∃ K o vs o' n', ei.st = some (K, o, vs) ∧ ej.ld = some (K, o', n') ∧ Apart o vs.length o' n' ∧ 0 < n') ∨
 (∃ K o vs o' vs', ei.st = some (K, o, vs) ∧ ej.st = some (K, o', vs') ∧ Apart o vs.length o' vs'.length)
structure Indep (ops : Array Oper) (i j : Nat) (ei ej : Eff) : Prop where
 dij : ∀ k, dstOf ops i = some k → k ∉ usesAt ops j ∧ dstOf ops j ≠ some k
 dji : ∀ k, dstOf ops j = some k → k ∉ usesAt ops i
 mem : ((∀ k, k ∈ ei.wr → k ∉ ej.T ∧ k ∉ ej.wr) ∧ (∀ k, k ∈ ej.wr → k ∉ ei.T)) ∨ (∃ K x y, ei.ins = some (K, x) ∧ ej.ins = some (K, y)) ∨ CellApart ei ej

theorem stepR_some {dec : List (Nat × Bool)} {hs : Nat → Nat → D} {s : List SV × Mem} {i : Nat} {e : Eff} (h : stepR P cs ops depth dec hs s i = .ok e) : ∃ o, ops[i]? = some o := by
 unfold stepR at h
 split at h
 ·cases h
 ·rename_i o ho; exact ⟨o, ho⟩

theorem stepR_frame {dec : List (Nat × Bool)} {hs : Nat → Nat → D} {s : List SV × Mem} {i j : Nat} {ei ej : Eff} (hd : ∀ k, dstOf ops j = some k → k ∉ usesAt ops i)
  (hw : ∀ k, k ∈ ej.wr → k ∉ ei.T) : stepR P cs ops depth dec hs (applyR ops s j ej) i = .ok ei ↔ stepR P cs ops depth dec hs s i = .ok ei := by
 have t1 : ∀ o, ops[i]? = some o → ∀ k, k ∈ usesOp ops o → (applyR ops s j ej).1[k]? = s.1[k]? := by
  intro o ho k hk
  refine putS_get fun q hq e => ?_
  subst e
  exact hd q hq (by simpa [usesAt, ho] using hk)
 have t2 : ∀ k, k ∈ ei.T → (applyR ops s j ej).2.get k = s.2.get k := fun k hk => applyR_get fun hkw => hw k hkw hk
 constructor
 ·intro h
  obtain ⟨o, ho⟩ := stepR_some h
  exact stepR_congr ho rfl (t1 o ho) h t2
 ·intro h
  obtain ⟨o, ho⟩ := stepR_some h
  exact stepR_congr ho rfl (fun k hk => (t1 o ho k hk).symm) h fun k hk => (t2 k hk).symm

theorem swap_alike {s : List SV × Mem} {i j : Nat} {ei ej : Eff} (hd : ∀ k, dstOf ops i = some k → dstOf ops j ≠ some k) (h : ∀ k o, ej.at k (ei.at k o) = ei.at k (ej.at k o)) :
  Alike (applyR ops (applyR ops s i ei) j ej) (applyR ops (applyR ops s j ej) i ei) := by
 refine ⟨?_, fun k => ?_⟩
 ·simp only [applyR]
  exact putS_comm fun k hk => hd k hk
 ·simp only [applyR, Eff.mem_get, h]

theorem at_comm {ei ej : Eff} (h : ∀ k, k ∈ ei.wr → k ∉ ej.wr) (k : Nat) (o : Option OBlk) : ej.at k (ei.at k o) = ei.at k (ej.at k o) := by
 by_cases hi : k ∈ ei.wr
 ·rw [Eff.at_other (h k hi), Eff.at_other (h k hi)]
 ·rw [Eff.at_other hi, Eff.at_other hi]
theorem stepR_ins {dec : List (Nat × Bool)} {hs : Nat → Nat → D} {s : List SV × Mem} {i : Nat} {e : Eff} {K : Nat} {x : IntKind × Int × SV} (h : stepR P cs ops depth dec hs s i = .ok e) (hi : e.ins = some (K, x)) :
  ∃ o t a b c ps, ops[i]? = some o ∧ o.op = .insert t a b c ∧ guardD dec ops o s.1 = .yes ps ∧ insOk P s.2 t (evS s.1 a) (evS s.1 b) = some (K, x.1, x.2.1) ∧
   e = ⟨ps, .undef, [K], none, some (K, x.1, x.2.1, evS s.1 c), none, none⟩ := by
 unfold stepR at h
 split at h
 ·cases h
 ·rename_i o ho
  split at h
  ·cases h
  ·cases h
  ·cases h; cases hi
  ·rename_i ps hg
   split at h
   ·unfold pickD at h
    split at h
    ·cases h; cases hi
    ·split at h
     ·cases h; cases hi
     ·cases h
    ·cases h
   ·split at h
    ·have := (lookD_ok h).2.2.1.2.1; rw [hi] at this; cases this
    ·cases h
   ·split at h
    ·split at h
     ·split at h
      ·cases h; cases hi
      ·cases h
     ·cases h
    ·split at h
     ·cases h; cases hi
     ·cases h
   ·split at h
    ·cases h; cases hi
    ·cases h
   ·rename_i t a b c hop
    split at h
    ·rename_i K' k n hins
     cases h
     cases hi
     exact ⟨o, t, a, b, c, ps, ho, hop, hg, hins, rfl⟩
    ·cases h
   ·split at h
    ·cases h; cases hi
    ·cases h

theorem stepR_of_ins {dec : List (Nat × Bool)} {hs : Nat → Nat → D} {s : List SV × Mem} {i : Nat} {o : Oper} {t : TypeId} {a b c : Operand} {ps : List Prop} {K : Nat} {k : IntKind} {n : Int}
  (ho : ops[i]? = some o) (hop : o.op = .insert t a b c) (hg : guardD dec ops o s.1 = .yes ps) (hins : insOk P s.2 t (evS s.1 a) (evS s.1 b) = some (K, k, n)) :
  stepR P cs ops depth dec hs s i = .ok ⟨ps, .undef, [K], none, some (K, k, n, evS s.1 c), none, none⟩ := by
 unfold stepR
 simp only [ho, hg, hop, hins]
theorem ins_swap {dec : List (Nat × Bool)} {hs : Nat → Nat → D} {s : List SV × Mem} {i j : Nat} {ei ej : Eff} {K : Nat} {x y : IntKind × Int × SV}
  (dij : ∀ k, dstOf ops i = some k → k ∉ usesAt ops j) (dji : ∀ k, dstOf ops j = some k → k ∉ usesAt ops i) (hxi : ei.ins = some (K, x)) (hyj : ej.ins = some (K, y))
  (h1 : stepR P cs ops depth dec hs s i = .ok ei) (h2 : stepR P cs ops depth dec hs (applyR ops s i ei) j = .ok ej) :
  stepR P cs ops depth dec hs s j = .ok ej ∧ stepR P cs ops depth dec hs (applyR ops s j ej) i = .ok ei ∧ ∀ k o, ej.at k (ei.at k o) = ei.at k (ej.at k o) := by
 obtain ⟨o1, t1, a1, b1, c1, p1, ho1, hop1, hg1, hi1, he1⟩ := stepR_ins h1 hxi
 obtain ⟨o2, t2, a2, b2, c2, p2, ho2, hop2, hg2, hi2, he2⟩ := stepR_ins h2 hyj
 have u2 : ∀ k, k ∈ usesOp ops o2 → (applyR ops s i ei).1[k]? = s.1[k]? := fun k hk => by
  refine putS_get fun q hq e => ?_
  subst e
  exact dij q hq (by simpa [usesAt, ho2] using hk)
 have u1 : ∀ k, k ∈ usesOp ops o1 → (applyR ops s j ej).1[k]? = s.1[k]? := fun k hk => by
  refine putS_get fun q hq e => ?_
  subst e
  exact dji q hq (by simpa [usesAt, ho1] using hk)
 have v2 := uses_eval (o := o2) u2
 have v1 := uses_eval (o := o1) u1
 rw [hop2] at v2
 rw [hop1] at v1
 rw [guardD_congr u2] at hg2
 rw [v2 a2 (by simp [Op.operands]), v2 b2 (by simp [Op.operands])] at hi2
 rw [v2 c2 (by simp [Op.operands])] at he2
 obtain ⟨kt1, et1, es1, q1, q2, q3, q4, q5, q6⟩ := insOk_spec hi1
 obtain ⟨kt2, et2, es2, r1, r2, r3, r4, r5, r6⟩ := insOk_spec hi2
 have hmem : (applyR ops s i ei).2.get K = some (.map (insE x.1 x.2.1 (evS s.1 c1) es1)) := by
  simp only [applyR, Eff.mem_get, Eff.at, he1, if_true, q5, Option.map_some, insO]
 rw [hmem] at r5
 cases r5
 obtain ⟨⟨w1, w2⟩, w3⟩ := newK_ins.1 r6
 have s2 : stepR P cs ops depth dec hs s j = .ok ej := by
  rw [he2]
  exact stepR_of_ins ho2 hop2 hg2 (insOk_of r1 r2 r3 r4 q5 w3)
 have hmem2 : (applyR ops s j ej).2.get K = some (.map (insE y.1 y.2.1 (evS s.1 c2) es1)) := by
  simp only [applyR, Eff.mem_get, Eff.at, he2, if_true, q5, Option.map_some, insO]
 refine ⟨s2, ?_, fun k o => ?_⟩
 ·rw [he1, ← v1 c1 (by simp [Op.operands])]
  refine stepR_of_ins ho1 hop1 (by rw [guardD_congr u1]; exact hg1) (insOk_of q1 q2 ?_ ?_ hmem2 (newK_ins.2 ⟨⟨w1.symm, Ne.symm w2⟩, q6⟩))
  ·rw [v1 a1 (by simp [Op.operands])]; exact q3
  ·rw [v1 b1 (by simp [Op.operands])]; exact q4
 ·simp only [Eff.at, he1, he2]
  split
  ·cases o with
   | none => rfl
   | some ob =>
    cases ob with
    | map es => simp only [Option.map_some, insO]; rw [insE_comm w2]
    | _ => rfl
  ·rfl
theorem stepR_st {dec : List (Nat × Bool)} {hs : Nat → Nat → D} {s : List SV × Mem} {i : Nat} {e : Eff} {K off : Nat} {vs : List SV} (h : stepR P cs ops depth dec hs s i = .ok e) (hi : e.st = some (K, off, vs)) :
  ∃ o t a x ps n ty cs', ops[i]? = some o ∧ o.op = .store t a x ∧ guardD dec ops o s.1 = .yes ps ∧ evS s.1 a = .ptr K off ∧ (evS s.1 x).cells? = some vs ∧ sizeT P t = some n ∧
   s.2.get K = some (.cells ty cs') ∧ (vs.length = n ∧ off + n ≤ cs'.length ∧ vs.all SV.one = true) ∧ e = ⟨ps, .undef, [K], none, none, some (K, off, vs), none⟩ := by
 unfold stepR at h
 split at h
 ·cases h
 ·rename_i o ho
  split at h
  ·cases h
  ·cases h
  ·cases h; cases hi
  ·rename_i ps hg
   split at h
   ·unfold pickD at h
    split at h
    ·cases h; cases hi
    ·split at h
     ·cases h; cases hi
     ·cases h
    ·cases h
   ·split at h
    ·have := (lookD_ok h).2.2.1.2.2; rw [hi] at this; cases this
    ·cases h
   ·rename_i t a x hop
    split at h
    ·rename_i K' off' ha
     split at h
     ·rename_i vs' n ty cs' h1 h2 h3
      split at h
      ·rename_i hc
       cases h
       cases hi
       exact ⟨o, t, a, x, ps, n, ty, cs', ho, hop, hg, ha, h1, h2, h3, hc, rfl⟩
      ·cases h
     ·cases h
    ·split at h
     ·cases h; cases hi
     ·cases h
   ·split at h
    ·cases h; cases hi
    ·cases h
   ·split at h
    ·cases h; cases hi
    ·cases h
   ·split at h
    ·cases h; cases hi
    ·cases h

theorem stepR_of_st {dec : List (Nat × Bool)} {hs : Nat → Nat → D} {s : List SV × Mem} {i : Nat} {o : Oper} {t : TypeId} {a x : Operand} {ps : List Prop} {K off n : Nat} {vs : List SV} {ty : TypeId} {cs' : List SV}
  (ho : ops[i]? = some o) (hop : o.op = .store t a x) (hg : guardD dec ops o s.1 = .yes ps) (ha : evS s.1 a = .ptr K off) (hx : (evS s.1 x).cells? = some vs) (hn : sizeT P t = some n)
  (hm : s.2.get K = some (.cells ty cs')) (hc : vs.length = n ∧ off + n ≤ cs'.length ∧ vs.all SV.one = true) : stepR P cs ops depth dec hs s i = .ok ⟨ps, .undef, [K], none, none, some (K, off, vs), none⟩ := by
 unfold stepR
 simp only [ho, hg, hop, ha, hx, hn, hm]
 rw [if_pos hc]
theorem stepR_ld {dec : List (Nat × Bool)} {hs : Nat → Nat → D} {s : List SV × Mem} {i : Nat} {e : Eff} {K off n : Nat} (h : stepR P cs ops depth dec hs s i = .ok e) (hi : e.ld = some (K, off, n)) :
  ∃ o t a ps qs v ty cs', ops[i]? = some o ∧ o.op = .load t a ∧ guardD dec ops o s.1 = .yes ps ∧ evS s.1 a = .ptr K off ∧ sizeT P t = some n ∧ s.2.get K = some (.cells ty cs') ∧
   (∃ b, aggT P t = some b ∧ qs = [] ∧ match b with
    | true => off + n ≤ cs'.length ∧ v = .agg ((cs'.drop off).take n)
    | false => cs'[off]? = some v) ∧ e = ⟨ps ++ qs, v, [K], none, none, none, some (K, off, n)⟩ := by
 unfold stepR at h
 split at h
 ·cases h
 ·rename_i o ho
  split at h
  ·cases h
  ·cases h
  ·cases h; cases hi
  ·rename_i ps hg
   split at h
   ·unfold pickD at h
    split at h
    ·cases h; cases hi
    ·split at h
     ·cases h; cases hi
     ·cases h
    ·cases h
   ·split at h
    ·have := lookD_ld h; rw [hi] at this; cases this
    ·cases h
   ·split at h
    ·split at h
     ·split at h
      ·cases h; cases hi
      ·cases h
     ·cases h
    ·split at h
     ·cases h; cases hi
     ·cases h
   ·rename_i t a hop
    split at h
    ·rename_i qs v hr
     cases h
     simp only at hi
     split at hi
     ·rename_i K' off' n' ha hn
      cases hi
      have hT : keysOp s.1 (.load t a) = [K] := by simp [keysOp, memless, Op.operands, SV.keysL, ha, SV.keys, addNs, addN]
      rw [hT] at hr
      simp only [runOp, quickOp, opr, ha] at hr
      cases hg2 : s.2.get K with
      | none => simp [pickM, hg2, loadR, Mem.get] at hr
      | some ob =>
       cases ob with
       | cells ty cs' =>
        refine ⟨o, t, a, ps, qs, v, ty, cs', ho, hop, hg, ha, hn, rfl, ?_, by rw [hT]⟩
        simp only [pickM, List.filterMap_cons, hg2, Option.map_some, List.filterMap_nil, loadR, Mem.get, beq_self_eq_true, if_true, hn] at hr
        cases hb : aggT P t with
        | none => simp [hb] at hr
        | some b =>
         refine ⟨b, rfl, ?_⟩
         cases b with
         | true =>
          simp only [hb] at hr
          split at hr
          ·rename_i ps' v' m' he
           split at he
           ·rename_i qs' u hv
            cases he
            split at hv
            ·rename_i hle
             cases hv; cases hr
             exact ⟨rfl, hle, rfl⟩
            ·cases hv
           ·cases he
          ·cases hr
         | false =>
          simp only [hb] at hr
          split at hr
          ·rename_i ps' v' m' he
           split at he
           ·rename_i qs' u hv
            cases he
            split at hv
            ·rename_i z hz
             cases hv; cases hr
             exact ⟨rfl, hz⟩
            ·cases hv
           ·cases he
          ·cases hr
       | _ => simp [pickM, hg2, loadR, Mem.get] at hr
     ·cases hi
    ·cases h
   ·split at h
    ·cases h; cases hi
    ·cases h
   ·split at h
    ·cases h; cases hi
    ·cases h

theorem stepR_of_ld {dec : List (Nat × Bool)} {hs : Nat → Nat → D} {s : List SV × Mem} {i : Nat} {o : Oper} {t : TypeId} {a : Operand} {ps : List Prop} {K off n : Nat} {v : SV} {ty : TypeId} {cs' : List SV} {b : Bool}
  (ho : ops[i]? = some o) (hop : o.op = .load t a) (hg : guardD dec ops o s.1 = .yes ps) (ha : evS s.1 a = .ptr K off) (hn : sizeT P t = some n)
  (hm : s.2.get K = some (.cells ty cs')) (hb : aggT P t = some b) (hv : match b with
    | true => off + n ≤ cs'.length ∧ v = .agg ((cs'.drop off).take n)
    | false => cs'[off]? = some v) : stepR P cs ops depth dec hs s i = .ok ⟨ps ++ [], v, [K], none, none, none, some (K, off, n)⟩ := by
 have hT : keysOp s.1 (.load t a) = [K] := by simp [keysOp, memless, Op.operands, SV.keysL, ha, SV.keys, addNs, addN]
 have hr : runOp P cs s.1 (dstKey depth o.dst) (hs i) (.load t a) (pickM s.2 [K]) = some ([], v, none) := by
  simp only [runOp, quickOp, opr, ha, pickM, List.filterMap_cons, hm, Option.map_some, List.filterMap_nil, loadR, Mem.get, beq_self_eq_true, if_true, hn, hb]
  cases b with
  | true => simp only at hv; simp only [hv.1, if_true, hv.2]
  | false => simp only at hv; simp only [hv]
 unfold stepR
 simp only [ho, hg, hop, hT, hr, ha, hn]
theorem splice_apart {cs vs : List SV} {o' : Nat} (hle : o' + vs.length ≤ cs.length) :
  (cs.take o' ++ vs ++ cs.drop (o' + vs.length)).length = cs.length ∧ ∀ k, (k < o' ∨ o' + vs.length ≤ k) → (cs.take o' ++ vs ++ cs.drop (o' + vs.length))[k]? = cs[k]? := by
 refine ⟨by simp; omega, fun k hk => ?_⟩
 rw [splice_get _ _ _ _ _ (by omega)]
 rcases hk with hk | hk
 ·rw [if_pos hk]
 ·rw [if_neg (by omega), if_neg (by omega)]
  congr 1; omega

theorem range_same {cs cs' : List SV} {off n : Nat} (h : ∀ k, off ≤ k → k < off + n → cs'[k]? = cs[k]?) : (cs'.drop off).take n = (cs.drop off).take n := by
 apply List.ext_getElem?
 intro k
 rw [List.getElem?_take, List.getElem?_take]
 split
 ·rw [List.getElem?_drop, List.getElem?_drop]
  exact h _ (by omega) (by omega)
 ·rfl
theorem ld_st {dec : List (Nat × Bool)} {hs : Nat → Nat → D} {s : List SV × Mem} {i j : Nat} {ei ej : Eff} {K o n o' : Nat} {vs : List SV} (dji : ∀ k, dstOf ops j = some k → k ∉ usesAt ops i)
  (hi : ei.ld = some (K, o, n)) (hj : ej.st = some (K, o', vs)) (hap : Apart o n o' vs.length) (hn : 0 < n) {ty : TypeId} {cs' : List SV} (hm : s.2.get K = some (.cells ty cs')) (hle : o' + vs.length ≤ cs'.length) :
  stepR P cs ops depth dec hs s i = .ok ei ↔ stepR P cs ops depth dec hs (applyR ops s j ej) i = .ok ei := by
 have hm2 : (applyR ops s j ej).2.get K = some (.cells ty (cs'.take o' ++ vs ++ cs'.drop (o' + vs.length))) := by
  simp only [applyR, Eff.mem_get, Eff.at, hj, if_true, hm, Option.map_some, updC]
 obtain ⟨l1, l2⟩ := splice_apart hle
 have same : ∀ k, o ≤ k → k < o + n → (cs'.take o' ++ vs ++ cs'.drop (o' + vs.length))[k]? = cs'[k]? := fun k h1 h2 => l2 k (by rcases hap with h | h <;> omega)
 have u : ∀ q, ops[i]? = some q → ∀ k, k ∈ usesOp ops q → (applyR ops s j ej).1[k]? = s.1[k]? := fun q hq k hk => by
  refine putS_get fun z hz e => ?_
  subst e
  exact dji z hz (by simpa [usesAt, hq] using hk)
 constructor
 ·intro h
  obtain ⟨q, t, a, ps, qs, v, ty', cs2, ho, hop, hg, ha, hsz, hm', ⟨b, hb, rfl, hv⟩, he⟩ := stepR_ld h hi
  rw [hm] at hm'
  cases hm'
  rw [he]
  have uq := u q ho
  have ue := uses_eval (o := q) uq
  rw [hop] at ue
  refine stepR_of_ld ho hop (by rw [guardD_congr uq]; exact hg) (by rw [ue a (by simp [Op.operands])]; exact ha) hsz hm2 hb ?_
  cases b with
  | true => exact ⟨by rw [l1]; exact hv.1, by rw [range_same same]; exact hv.2⟩
  | false => simp only at hv ⊢; rw [same o (Nat.le_refl _) (by omega)]; exact hv
 ·intro h
  obtain ⟨q, t, a, ps, qs, v, ty', cs2, ho, hop, hg, ha, hsz, hm', ⟨b, hb, rfl, hv⟩, he⟩ := stepR_ld h hi
  rw [hm2] at hm'
  cases hm'
  rw [he]
  have uq := u q ho
  have ue := uses_eval (o := q) uq
  rw [hop] at ue
  refine stepR_of_ld ho hop (by rw [← guardD_congr uq]; exact hg) (by rw [← ue a (by simp [Op.operands])]; exact ha) hsz hm hb ?_
  cases b with
  | true => exact ⟨by have := hv.1; rw [l1] at this; exact this, by rw [← range_same same]; exact hv.2⟩
  | false => simp only at hv ⊢; rw [← same o (Nat.le_refl _) (by omega)]; exact hv
theorem updC_comm {o o' : Nat} {vs vs' : List SV} {ty : TypeId} {cs : List SV} (h : Apart o vs.length o' vs'.length) (h1 : o + vs.length ≤ cs.length) (h2 : o' + vs'.length ≤ cs.length) :
  updC o' vs' (updC o vs (.cells ty cs)) = updC o vs (updC o' vs' (.cells ty cs)) := by
 obtain ⟨a1, a2⟩ := splice_apart h1
 obtain ⟨b1, b2⟩ := splice_apart h2
 simp only [updC]
 congr 1
 apply List.ext_getElem?
 intro k
 have sp : ∀ (l : List SV) (q : Nat) (us : List SV), q + us.length ≤ l.length → (l.take q ++ us ++ l.drop (q + us.length))[k]? = if k < q then l[k]? else if k < q + us.length then us[k - q]? else l[k]? := by
  intro l q us hl
  rw [splice_get _ _ _ _ _ (by omega)]
  split
  ·rfl
  ·split
   ·rfl
   ·rw [show k - (q + us.length) + (q + us.length) = k from by omega]
 rw [sp (cs.take o ++ vs ++ cs.drop (o + vs.length)) o' vs' (by rw [a1]; exact h2), sp (cs.take o' ++ vs' ++ cs.drop (o' + vs'.length)) o vs (by rw [b1]; exact h1), sp cs o vs h1, sp cs o' vs' h2]
 rcases h with h | h
 ·by_cases c1 : k < o <;> by_cases c2 : k < o + vs.length <;> by_cases c3 : k < o' <;> by_cases c4 : k < o' + vs'.length <;> simp only [c1, c2, c3, c4, if_true, if_false] <;> omega
 ·by_cases c1 : k < o <;> by_cases c2 : k < o + vs.length <;> by_cases c3 : k < o' <;> by_cases c4 : k < o' + vs'.length <;> simp only [c1, c2, c3, c4, if_true, if_false] <;> omega

theorem st_swap {dec : List (Nat × Bool)} {hs : Nat → Nat → D} {s : List SV × Mem} {i j : Nat} {ei ej : Eff} {K o o' : Nat} {vs vs' : List SV}
  (dij : ∀ k, dstOf ops i = some k → k ∉ usesAt ops j) (dji : ∀ k, dstOf ops j = some k → k ∉ usesAt ops i) (hi : ei.st = some (K, o, vs)) (hj : ej.st = some (K, o', vs')) (hap : Apart o vs.length o' vs'.length)
  (h1 : stepR P cs ops depth dec hs s i = .ok ei) (h2 : stepR P cs ops depth dec hs (applyR ops s i ei) j = .ok ej) :
  stepR P cs ops depth dec hs s j = .ok ej ∧ stepR P cs ops depth dec hs (applyR ops s j ej) i = .ok ei ∧ Alike (applyR ops (applyR ops s i ei) j ej) (applyR ops (applyR ops s j ej) i ei) := by
 obtain ⟨p, t, a, x, ps, n, ty, cs1, ho, hop, hg, ha, hx, hn, hm, hc, he⟩ := stepR_st h1 hi
 obtain ⟨p', t', a', x', ps', n', ty', cs2, ho', hop', hg', ha', hx', hn', hm', hc', he'⟩ := stepR_st h2 hj
 have hm2 : (applyR ops s i ei).2.get K = some (.cells ty (cs1.take o ++ vs ++ cs1.drop (o + vs.length))) := by
  simp only [applyR, Eff.mem_get, Eff.at, hi, if_true, hm, Option.map_some, updC]
 rw [hm2] at hm'
 cases hm'
 obtain ⟨l1, _⟩ := splice_apart (cs := cs1) (vs := vs) (o' := o) (by rw [hc.1]; exact hc.2.1)
 have u' : ∀ k, k ∈ usesOp ops p' → (applyR ops s i ei).1[k]? = s.1[k]? := fun k hk => by
  refine putS_get fun z hz e => ?_
  subst e
  exact dij z hz (by simpa [usesAt, ho'] using hk)
 have u : ∀ k, k ∈ usesOp ops p → (applyR ops s j ej).1[k]? = s.1[k]? := fun k hk => by
  refine putS_get fun z hz e => ?_
  subst e
  exact dji z hz (by simpa [usesAt, ho] using hk)
 have ue' := uses_eval (o := p') u'
 have ue := uses_eval (o := p) u
 rw [hop'] at ue'
 rw [hop] at ue
 have hle' : o' + n' ≤ cs1.length := by have := hc'.2.1; rw [l1] at this; exact this
 have s2 : stepR P cs ops depth dec hs s j = .ok ej := by
  rw [he']
  exact stepR_of_st ho' hop' (by rw [← guardD_congr u']; exact hg') (by rw [← ue' a' (by simp [Op.operands])]; exact ha') (by rw [← ue' x' (by simp [Op.operands])]; exact hx') hn' hm ⟨hc'.1, hle', hc'.2.2⟩
 obtain ⟨k1, _⟩ := splice_apart (cs := cs1) (vs := vs') (o' := o') (by rw [hc'.1]; exact hle')
 have hm3 : (applyR ops s j ej).2.get K = some (.cells ty (cs1.take o' ++ vs' ++ cs1.drop (o' + vs'.length))) := by
  simp only [applyR, Eff.mem_get, Eff.at, hj, if_true, hm, Option.map_some, updC]
 refine ⟨s2, ?_, ?_, fun k => ?_⟩
 ·rw [he]
  exact stepR_of_st ho hop (by rw [guardD_congr u]; exact hg) (by rw [ue a (by simp [Op.operands])]; exact ha) (by rw [ue x (by simp [Op.operands])]; exact hx) hn hm3 ⟨hc.1, by rw [k1]; exact hc.2.1, hc.2.2⟩
 ·simp only [applyR]
  rw [he, he']
  have d1 : ∀ (l : List SV) (d : Option Tmp), putS (putS l (dstOf ops i) .undef) (dstOf ops j) .undef = putS (putS l (dstOf ops j) .undef) (dstOf ops i) .undef := by
   intro l _
   cases dstOf ops i with
   | none => rfl
   | some q =>
    cases dstOf ops j with
    | none => rfl
    | some z =>
     simp only [putS]
     by_cases hqz : q = z
     ·subst hqz; rfl
     ·exact List.set_comm _ _ hqz
  exact d1 _ none
 ·simp only [applyR, Eff.mem_get, Eff.at, hi, hj]
  split
  ·rename_i hk
   subst hk
   rw [hm]
   simp only [Option.map_some]
   rw [updC_comm hap (by rw [hc.1]; exact hc.2.1) (by rw [hc'.1]; exact hle')]
  ·rfl
def Goes (P : Program) (cs : Ctrs) (ops : Array Oper) (depth : Nat) (dec : List (Nat × Bool)) (hs : Nat → Nat → D) (r : Nat → Eff) : List Nat → List SV × Mem → Prop
 | [], _ => True
 | i :: l, s => stepR P cs ops depth dec hs s i = .ok (r i) ∧ Goes P cs ops depth dec hs r l (applyR ops s i (r i))

def allR (ops : Array Oper) (r : Nat → Eff) : List Nat → List SV × Mem → List SV × Mem
 | [], s => s
 | i :: l, s => allR ops r l (applyR ops s i (r i))

theorem allR_append {r : Nat → Eff} : ∀ {l l' : List Nat} {s : List SV × Mem}, allR ops r (l ++ l') s = allR ops r l' (allR ops r l s)
 | [], _, _ => rfl
 | i :: l, l', s => by simp only [List.cons_append, allR]; exact allR_append

theorem goes_append {dec : List (Nat × Bool)} {hs : Nat → Nat → D} {r : Nat → Eff} : ∀ {l l' : List Nat} {s : List SV × Mem},
  Goes P cs ops depth dec hs r (l ++ l') s ↔ Goes P cs ops depth dec hs r l s ∧ Goes P cs ops depth dec hs r l' (allR ops r l s)
 | [], _, _ => by simp [Goes, allR]
 | i :: l, l', s => by simp only [List.cons_append, Goes, allR, goes_append (l := l), and_assoc]

theorem allR_alike {r : Nat → Eff} : ∀ {l : List Nat} {s t : List SV × Mem}, Alike s t → Alike (allR ops r l s) (allR ops r l t)
 | [], _, _, h => h
 | i :: l, s, t, h => allR_alike (l := l) (applyR_alike h)

theorem goes_alike {dec : List (Nat × Bool)} {hs : Nat → Nat → D} {r : Nat → Eff} : ∀ {l : List Nat} {s t : List SV × Mem}, Alike s t → Goes P cs ops depth dec hs r l s → Goes P cs ops depth dec hs r l t
 | [], _, _, _, _ => trivial
 | i :: l, s, t, h, ⟨h1, h2⟩ => by
  obtain ⟨o, ho⟩ := stepR_some h1
  exact ⟨stepR_congr ho rfl (fun k _ => by rw [h.1]) h1 fun k _ => h.2 k, goes_alike (applyR_alike h) h2⟩
theorem goes_swap {dec : List (Nat × Bool)} {hs : Nat → Nat → D} {r : Nat → Eff} {i j : Nat} {l : List Nat} {s : List SV × Mem} (h : Indep ops i j (r i) (r j))
  (hg : Goes P cs ops depth dec hs r (i :: j :: l) s) : Goes P cs ops depth dec hs r (j :: i :: l) s ∧ Alike (allR ops r (i :: j :: l) s) (allR ops r (j :: i :: l) s) := by
 obtain ⟨h1, h2, h3⟩ := hg
 obtain ⟨dij, dji, hm⟩ := h
 rcases hm with ⟨wij, wji⟩ | ⟨K, x, y, hx, hy⟩ | hcell
 ·have hsw := swap_alike (ops := ops) (s := s) (i := i) (j := j) (ei := r i) (ej := r j) (fun k hk => (dij k hk).2) (at_comm fun k hk => (wij k hk).2)
  exact ⟨⟨(stepR_frame (fun k hk => (dij k hk).1) (fun k hk => (wij k hk).1)).1 h2, (stepR_frame dji wji).2 h1, goes_alike hsw h3⟩, allR_alike hsw⟩
 ·obtain ⟨s2, s1, hc⟩ := ins_swap (fun k hk => (dij k hk).1) dji hx hy h1 h2
  have hsw := swap_alike (ops := ops) (s := s) (i := i) (j := j) (ei := r i) (ej := r j) (fun k hk => (dij k hk).2) hc
  exact ⟨⟨s2, s1, goes_alike hsw h3⟩, allR_alike hsw⟩
 ·have quiet : ∀ {e : Eff} {s : List SV × Mem} {i : Nat} {K o n : Nat}, stepR P cs ops depth dec hs s i = .ok e → e.ld = some (K, o, n) → e.wr = [] := fun h hl => by
   obtain ⟨_, _, _, _, _, _, _, _, _, _, _, _, _, _, _, he⟩ := stepR_ld h hl
   rw [he]; rfl
  rcases hcell with ⟨K, o, n, o', vs, hl, hst, hap, hn⟩ | ⟨K, o, vs, o', n', hst, hl, hap, hn⟩ | ⟨K, o, vs, o', vs', hst, hst', hap⟩
  ·have hw := quiet h1 hl
   have s2 : stepR P cs ops depth dec hs s j = .ok (r j) := (stepR_frame (fun k hk => (dij k hk).1) (fun k hk => by rw [hw] at hk; cases hk)).1 h2
   obtain ⟨_, _, _, _, _, n2, ty, cs', _, _, _, _, _, _, hm, hc, _⟩ := stepR_st s2 hst
   have s1 := (ld_st (cs := cs) (dec := dec) (hs := hs) dji hl hst hap hn hm (by rw [hc.1]; exact hc.2.1)).1 h1
   have hsw := swap_alike (ops := ops) (s := s) (i := i) (j := j) (ei := r i) (ej := r j) (fun k hk => (dij k hk).2) (at_comm fun k hk => by rw [hw] at hk; cases hk)
   exact ⟨⟨s2, s1, goes_alike hsw h3⟩, allR_alike hsw⟩
  ·obtain ⟨_, _, _, _, _, n2, ty, cs', _, _, _, _, _, _, hm, hc, _⟩ := stepR_st h1 hst
   have hap' : Apart o' n' o vs.length := hap.symm
   have s2 := (ld_st (cs := cs) (dec := dec) (hs := hs) (s := s) (i := j) (j := i) (fun k hk => (dij k hk).1) hl hst hap' hn hm (by rw [hc.1]; exact hc.2.1)).2 h2
   have hw := quiet s2 hl
   have s1 : stepR P cs ops depth dec hs (applyR ops s j (r j)) i = .ok (r i) := (stepR_frame dji (fun k hk => by rw [hw] at hk; cases hk)).2 h1
   have hsw := swap_alike (ops := ops) (s := s) (i := i) (j := j) (ei := r i) (ej := r j) (fun k hk => (dij k hk).2) (at_comm fun k _ hk => by rw [hw] at hk; cases hk)
   exact ⟨⟨s2, s1, goes_alike hsw h3⟩, allR_alike hsw⟩
  ·obtain ⟨s2, s1, hsw⟩ := st_swap (fun k hk => (dij k hk).1) dji hst hst' hap h1 h2
   exact ⟨⟨s2, s1, goes_alike hsw h3⟩, allR_alike hsw⟩
theorem goes_front {dec : List (Nat × Bool)} {hs : Nat → Nat → D} {r : Nat → Eff} {i : Nat} {b : List Nat} : ∀ {a : List Nat} {s : List SV × Mem}, (∀ x, x ∈ a → Indep ops x i (r x) (r i)) →
  Goes P cs ops depth dec hs r (a ++ i :: b) s → Goes P cs ops depth dec hs r (i :: (a ++ b)) s ∧ Alike (allR ops r (a ++ i :: b) s) (allR ops r (i :: (a ++ b)) s)
 | [], s, _, h => ⟨h, Alike.refl _⟩
 | x :: a, s, hx, h => by
  obtain ⟨h1, h2⟩ := h
  obtain ⟨g1, g2⟩ := goes_front (a := a) (fun y hy => hx y (List.mem_cons_of_mem _ hy)) h2
  obtain ⟨k1, k2⟩ := goes_swap (l := a ++ b) (hx x List.mem_cons_self) (s := s) ⟨h1, g1⟩
  exact ⟨k1, g2.trans k2⟩

/-! ### The orders that a region may take -/

def predsOf (ops : Array Oper) (i : Nat) : List Nat :=
 match ops[i]? with
 | some o => (o.after.toList.filter (Region.binds .any)).map (·.on)
 | none => []
inductive Begun (ops : Array Oper) : List Nat → Prop
 | nil : Begun ops []
 | snoc {l : List Nat} {i : Nat} (h : Begun ops l) (hi : i ∉ l) (hlt : i < ops.size) (hp : ∀ j, j ∈ predsOf ops i → j ∈ l) : Begun ops (l ++ [i])

theorem Begun.closed {l : List Nat} (h : Begun ops l) : ∀ i, i ∈ l → ∀ j, j ∈ predsOf ops i → j ∈ l := by
 induction h with
 | nil => intro i hi; cases hi
 | snoc h hi hlt hp ih =>
  intro k hk j hj
  rcases List.mem_append.1 hk with hk | hk
  ·exact List.mem_append_left _ (ih k hk j hj)
  ·rw [List.mem_singleton.1 hk] at hj
   exact List.mem_append_left _ (hp j hj)
def maskOf (acc : List Nat) (o : Oper) : Nat := o.after.toList.foldr (fun e s => if Region.binds .any e then (2 ^ e.on ||| acc.getD e.on 0) ||| s else s) 0

def masks : List Oper → List Nat → List Nat
 | [], acc => acc
 | o :: r, acc => masks r (acc ++ [maskOf acc o])

theorem maskOf_bit {acc : List Nat} {o : Oper} {j : Nat} (h : (maskOf acc o).testBit j = true) :
  ∃ e, e ∈ o.after.toList ∧ Region.binds .any e = true ∧ (j = e.on ∨ (acc.getD e.on 0).testBit j = true) := by
 unfold maskOf at h
 generalize o.after.toList = es at h
 induction es with
 | nil => simp at h
 | cons e r ih =>
  simp only [List.foldr_cons] at h
  split at h
  ·rename_i hb
   simp only [Nat.testBit_or, Bool.or_eq_true, Nat.testBit_two_pow, decide_eq_true_eq] at h
   rcases h with (h | h) | h
   ·exact ⟨e, List.mem_cons_self, hb, .inl h.symm⟩
   ·exact ⟨e, List.mem_cons_self, hb, .inr h⟩
   ·obtain ⟨e', h1, h2⟩ := ih h; exact ⟨e', List.mem_cons_of_mem _ h1, h2⟩
  ·obtain ⟨e', h1, h2⟩ := ih h; exact ⟨e', List.mem_cons_of_mem _ h1, h2⟩
def TableOk (ops : Array Oper) (acc : List Nat) : Prop :=
 ∀ i, i < acc.length → ∀ l, Begun ops l → (∀ j, j ∈ predsOf ops i → j ∈ l) → ∀ j, (acc.getD i 0).testBit j = true → j ∈ l

theorem masks_ok : ∀ {r : List Oper} {acc : List Nat}, (∀ k, r[k]? = ops[acc.length + k]?) → TableOk ops acc → TableOk ops (masks r acc)
 | [], acc, _, h => h
 | o :: r, acc, hr, h => by
  have h0 : ops[acc.length]? = some o := by have := hr 0; simpa using this.symm
  refine masks_ok (r := r) (acc := acc ++ [maskOf acc o]) (fun k => ?_) ?_
  ·have := hr (k + 1)
   simp only [List.getElem?_cons_succ] at this
   rw [this]
   simp only [List.length_append, List.length_singleton]
   congr 1; omega
  ·intro i hi l hl hp j hj
   simp only [List.length_append, List.length_singleton] at hi
   by_cases hlt : i < acc.length
   ·rw [List.getD_eq_getElem?_getD, List.getElem?_append_left hlt, ← List.getD_eq_getElem?_getD] at hj
    exact h i hlt l hl hp j hj
   ·have : i = acc.length := by omega
    subst this
    rw [List.getD_eq_getElem?_getD, List.getElem?_append_right (Nat.le_refl _)] at hj
    simp only [Nat.sub_self, List.getElem?_cons_zero, Option.getD_some] at hj
    obtain ⟨e, he, hb, hj⟩ := maskOf_bit hj
    have hpe : e.on ∈ predsOf ops acc.length := by
     simp only [predsOf, h0, List.mem_map, List.mem_filter]
     exact ⟨e, ⟨he, hb⟩, rfl⟩
    have hin := hp _ hpe
    rcases hj with rfl | hj
    ·exact hin
    ·by_cases hlt2 : e.on < acc.length
     ·exact h e.on hlt2 l hl (hl.closed _ hin) j hj
     ·rw [List.getD_eq_getElem?_getD, List.getElem?_eq_none (by omega)] at hj
      simp at hj

theorem masks_table : TableOk ops (masks ops.toList []) := masks_ok (fun k => by simp) (fun i hi => by simp at hi)

theorem masks_length : ∀ (r : List Oper) (acc : List Nat), (masks r acc).length = acc.length + r.length
 | [], acc => by simp [masks]
 | o :: r, acc => by simp only [masks]; rw [masks_length r]; simp; omega
def left (n : Nat) (l : List Nat) : List Nat := (List.range n).filter fun i => !l.contains i

theorem left_split {n i : Nat} {l : List Nat} (hi : i ∉ l) (hlt : i < n) :
  ∃ a b, left n l = a ++ i :: b ∧ left n (l ++ [i]) = a ++ b ∧ ∀ x, x ∈ a → x < i ∧ x ∉ l := by
 obtain ⟨p, q, hpq, hp⟩ : ∃ p q, List.range n = p ++ i :: q ∧ (∀ x, x ∈ p → x < i) := by
  refine ⟨List.range i, (List.range (n - i - 1)).map (fun k => i + 1 + k), ?_, fun x hx => by simpa using hx⟩
  have h1 : n = i + (1 + (n - i - 1)) := by omega
  rw [h1, List.range_add, Nat.add_comm 1, List.range_succ_eq_map]
  simp only [List.map_cons, Nat.add_zero, List.map_map]
  congr 2
  have h2 : i + (n - i - 1 + 1) - i - 1 = n - i - 1 := by omega
  rw [h2]
  apply List.map_congr_left
  intro k _
  simp only [Function.comp]
  omega
 have hnd : (List.range n).Nodup := List.nodup_range
 rw [hpq] at hnd
 have hq : i ∉ q := by
  intro h
  rw [List.nodup_append] at hnd
  have := hnd.2.1
  simp only [List.nodup_cons] at this
  exact this.1 h
 have hip : i ∉ p := fun h => by have := hp i h; omega
 refine ⟨p.filter fun x => !l.contains x, q.filter fun x => !l.contains x, ?_, ?_, fun x hx => ?_⟩
 ·simp only [left, hpq, List.filter_append, List.filter_cons]
  rw [if_pos (by simpa using hi)]
 ·simp only [left, hpq, List.filter_append, List.filter_cons]
  have e1 : (p.filter fun x => !(l ++ [i]).contains x) = p.filter fun x => !l.contains x := by
   apply List.filter_congr
   intro x hx
   have : x ≠ i := fun e => hip (e ▸ hx)
   simp [this]
  have e2 : (q.filter fun x => !(l ++ [i]).contains x) = q.filter fun x => !l.contains x := by
   apply List.filter_congr
   intro x hx
   have : x ≠ i := fun e => hq (e ▸ hx)
   simp [this]
  rw [e1, e2]
  simp
 ·rw [List.mem_filter] at hx
  exact ⟨hp x hx.1, by simpa using hx.2⟩
theorem begun_goes {dec : List (Nat × Bool)} {hs : Nat → Nat → D} {r : Nat → Eff} {s : List SV × Mem} (hg : Goes P cs ops depth dec hs r (List.range ops.size) s)
  (hind : ∀ x i, x < i → i < ops.size → ((masks ops.toList []).getD i 0).testBit x = false → Indep ops x i (r x) (r i)) {l : List Nat} (hl : Begun ops l) :
  Goes P cs ops depth dec hs r (l ++ left ops.size l) s ∧ Alike (allR ops r (List.range ops.size) s) (allR ops r (l ++ left ops.size l) s) := by
 induction hl with
 | nil =>
  have : left ops.size [] = List.range ops.size := by simp [left]
  rw [List.nil_append, this]
  exact ⟨hg, Alike.refl _⟩
 | @snoc l i hl hi hlt hp ih =>
  obtain ⟨a, b, h1, h2, h3⟩ := left_split hi hlt
  rw [h1] at ih
  obtain ⟨ih1, ih2⟩ := ih
  rw [goes_append] at ih1
  have hx : ∀ x, x ∈ a → Indep ops x i (r x) (r i) := by
   intro x hxa
   obtain ⟨hxi, hxl⟩ := h3 x hxa
   refine hind x i hxi hlt ?_
   cases hb : ((masks ops.toList []).getD i 0).testBit x with
   | false => rfl
   | true => exact absurd (masks_table i (by rw [masks_length]; simpa using hlt) l hl hp x hb) hxl
  obtain ⟨g1, g2⟩ := goes_front hx ih1.2
  rw [h2, List.append_assoc, List.singleton_append]
  refine ⟨goes_append.2 ⟨ih1.1, g1⟩, ih2.trans ?_⟩
  rw [allR_append, allR_append (l := l)]
  exact g2
end
end Sx
end
section
namespace Sx
open Go RowKit

theorem wpOp_run {P : Program} {ops : Array Oper} {Q : Exit → Act → World → Prop} {i : Nat} {o : Oper} {a : Act} {w w' : World} {v : Value} {K : Act → World → Prop} (ho : ops[i]? = some o)
  (hw : Region.wanted o (yielded ops a.tmps) = true) (hr : RunsTo P a o w v w') (hK : K (a.put o.dst v) w') : wpOp P ops Q i K a w := by
 unfold wpOp
 simp only [ho, hw, if_true]
 left
 unfold Oper.wp
 rcases hr with hr | ⟨hr, rfl⟩
 ·rw [hr]; exact hK
 ·rw [hr]; exact hK

theorem named_pick {k : Nat} {m : Mem} {T : List Nat} (h : k ∉ Mem.named m) : k ∉ Mem.named (pickM m T) := by
 intro hk
 simp only [Mem.named, List.mem_flatMap] at hk h
 obtain ⟨x, hx, hk⟩ := hk
 exact h ⟨x, (pickM_mem hx).1, hk⟩

theorem named_drop {k : Nat} {m : Mem} {T : List Nat} (h : k ∉ Mem.named m) : k ∉ Mem.named (dropM m T) := by
 intro hk
 simp only [Mem.named, List.mem_flatMap] at hk h
 obtain ⟨x, hx, hk⟩ := hk
 exact h ⟨x, (List.mem_filter.1 hx).1, hk⟩
def NearT (tmps : List SV) (rest : List SFrm) (E E' : Env) : Prop :=
 SV.denL E' tmps = SV.denL E tmps ∧ rest.map (SFrm.den E') = rest.map (SFrm.den E)

section
variable {P : Program} {C : Ctx} {cs : Ctrs} {ops : Array Oper} {depth : Nat}

theorem runOp_sound (hcs : cs.Ok P) {Q : Exit → Act → World → Prop} {rest : List SFrm} {s : List SV × Mem} {i : Nat} {o : Oper} {key : Nat} {E : Env} {H : HV} {w : World}
  (ho : ops[i]? = some o) (hw : Region.wanted o (yielded ops (SV.denL E s.1).toArray) = true)
  (g : Good C s.2 E H w) (hok : SV.OkL H s.1) (f1 : key ∉ SV.keysL s.1) (f2 : key ∉ Mem.named s.2) (f3 : ∀ f, f ∈ rest → key ∉ SV.keysL f.tmps) {K : Act → World → Prop}
  (h : ∀ hh : Nat → D, ∃ qs v out, runOp P cs s.1 key hh o.op (pickM s.2 (keysOp s.1 o.op)) = some (qs, v, out) ∧ (∀ q, q ∈ qs → q) ∧
   ∀ E' H' w', Good C (match out with | none => s.2 | some m => m ++ dropM s.2 (keysOp s.1 o.op)) E' H' w' → NearT s.1 rest E E' → HLe H H' → v.Ok H' →
    K ((⟨(SV.denL E s.1).toArray, []⟩ : Act).put o.dst (v.den E')) w') :
  wpOp P ops Q i K ⟨(SV.denL E s.1).toArray, []⟩ w := by
 have hT : (keysOp s.1 o.op).Nodup := keysOp_nodup _ _
 have gc := g.cut hT
 have gd : Good C (pickM s.2 (keysOp s.1 o.op)) E H w := gc.sub (List.sublist_append_left _ _)
 have k1 : SV.hasL key s.1 = false := SV.hasL_of_keys _ f1
 have k2 : Mem.has key (pickM s.2 (keysOp s.1 o.op)) = false := Mem.has_of_named (named_pick f2)
 have k3 : Mem.has key (dropM s.2 (keysOp s.1 o.op)) = false := Mem.has_of_named (named_drop f2)
 have near : ∀ {E' : Env}, Agree key E E' → NearT s.1 rest E E' := fun ha => ⟨SV.denL_agree ha _ k1, rest_agree ha fun f hf => SV.hasL_of_keys _ (f3 f hf)⟩
 unfold runOp at h
 cases hq : quickOp o.op with
 | true =>
  simp only [hq] at h
  obtain ⟨qs, v, out, he, hqs, hk⟩ := h (fun _ => default)
  split at he
  ·rename_i ps v' m' hop
   cases he
   obtain ⟨h1, h2⟩ := oprQ_spec (P := P) (o := o) (v := v) (ps := qs) gd hok (by
    have hopr : opr P (evS s.1) (pickM s.2 (keysOp s.1 o.op)) 0 o.op = .val qs v m' := hop
    simp only [oprQ, hq, if_true, hopr]) hqs
   exact wpOp_run ho hw (.inl h1) (hk E H w g ⟨rfl, rfl⟩ (HLe.refl _) h2)
  ·cases he
 | false =>
  simp only [hq] at h
  -- from the outcome of a plain operation
  have plain : (∀ hh : Nat → D, ∃ qs v m', outOf (opr P (evS s.1) (pickM s.2 (keysOp s.1 o.op)) key o.op) hh = some (qs, v, m') ∧ (∀ q, q ∈ qs → q) ∧
    ∀ E' H' w', Good C (m' ++ dropM s.2 (keysOp s.1 o.op)) E' H' w' → NearT s.1 rest E E' → HLe H H' → v.Ok H' →
     K ((⟨(SV.denL E s.1).toArray, []⟩ : Act).put o.dst (v.den E')) w') → wpOp P ops Q i K ⟨(SV.denL E s.1).toArray, []⟩ w := by
   intro h
   have hr := opr_spec (P := P) (o := o) (a := ⟨(SV.denL E s.1).toArray, []⟩) gd (fun x => den_evS E s.1 [] x) (ok_evS hok) k2 (fun x => has_evS k1 x)
   generalize opr P (evS s.1) (pickM s.2 (keysOp s.1 o.op)) key o.op = r at h hr
   cases r with
   | bad => obtain ⟨_, _, _, he, _⟩ := h (fun _ => default); simp [outOf] at he
   | val ps v m' =>
    obtain ⟨qs, v2, d, he, hq, hk⟩ := h (fun _ => default)
    simp only [outOf, Option.some.injEq, Prod.mk.injEq] at he
    obtain ⟨rfl, rfl, rfl⟩ := he
    obtain ⟨w', E', H', hrun, ha, hle, g', hv, hkeep⟩ := hr hq
    exact wpOp_run ho hw hrun (hk E' H' w' (gc.beside g' ha hle hkeep k3) (near ha) hle hv)
   | all ps gg =>
    have hq : ∀ q, q ∈ ps → q := by
     obtain ⟨qs, v2, d, he, hq, _⟩ := h (fun _ => default)
     simp only [outOf, Option.some.injEq, Prod.mk.injEq] at he
     rw [he.1]; exact hq
    obtain ⟨hs1, w', E', H', hrun, ha, hle, g', hv, hkeep⟩ := hr hq
    obtain ⟨qs, v2, d, he, _, hk⟩ := h hs1
    simp only [outOf, Option.some.injEq, Prod.mk.injEq] at he
    obtain ⟨rfl, rfl, rfl⟩ := he
    exact wpOp_run ho hw hrun (hk E' H' w' (gc.beside g' ha hle hkeep k3) (near ha) hle hv)
  have plain' : (∀ hh : Nat → D, ∃ qs v out, outS (outOf (opr P (evS s.1) (pickM s.2 (keysOp s.1 o.op)) key o.op) hh) = some (qs, v, out) ∧ (∀ q, q ∈ qs → q) ∧
    ∀ E' H' w', Good C (match out with | none => s.2 | some m => m ++ dropM s.2 (keysOp s.1 o.op)) E' H' w' → NearT s.1 rest E E' → HLe H H' → v.Ok H' →
     K ((⟨(SV.denL E s.1).toArray, []⟩ : Act).put o.dst (v.den E')) w') → wpOp P ops Q i K ⟨(SV.denL E s.1).toArray, []⟩ w := by
   intro h
   refine plain fun hh => ?_
   obtain ⟨qs, v, out, he, h1, h2⟩ := h hh
   unfold outS at he
   split at he
   ·rename_i ps v' m' hout
    cases he
    exact ⟨_, _, _, hout, h1, h2⟩
   ·cases he
  split at h
  ·rename_i cl hop
   cases hcal : calleeOf (evS s.1) cl.callee with
   | none => simp only [hcal] at h; exact plain' h
   | some x =>
    obtain ⟨f, first, captured⟩ := x
    simp only [hcal] at h
    cases hfind : cs.find f with
    | none => obtain ⟨_, _, _, he, _⟩ := h (fun _ => default); simp [hfind] at he
    | some ctr =>
     simp only [hfind] at h
     obtain ⟨⟨fn, hfn, hb, hn⟩, hctr, hro⟩ := hcs _ (Ctrs.find_mem hfind)
     have hcall := hctr C E H w _ key _ gd (okL_args hok hcal) k2 (has_args k1 hcal)
     have hro := hro (first ++ cl.args.toList.map (evS s.1) ++ captured) key (pickM s.2 (keysOp s.1 o.op))
     have hrun := run_call (P := P) (fun x => den_evS E s.1 [] x) hcal hfn hb hn hop w
     have fin : ∀ {T : Value → World → Prop}, Calls P f (SV.denL E (first ++ cl.args.toList.map (evS s.1) ++ captured)).toArray w (fun e w' => ∃ v, e = .returned v ∧ T v w') →
       (∀ v w', T v w' → K ((⟨(SV.denL E s.1).toArray, []⟩ : Act).put o.dst v) w') → wpOp P ops Q i K ⟨(SV.denL E s.1).toArray, []⟩ w := by
      intro T hc hT
      unfold wpOp
      simp only [ho, hw, if_true]
      left
      unfold Oper.wp
      rw [hrun]
      refine Calls.mono hc fun e w' he => ?_
      obtain ⟨v, rfl, h1⟩ := he
      exact hT v w' h1
     simp only at hcall hro
     generalize ctr (first ++ cl.args.toList.map (evS s.1) ++ captured) key (pickM s.2 (keysOp s.1 o.op)) = r at h hcall hro
     have h' : ∀ hh : Nat → D, ∃ qs v m', outOf r hh = some (qs, v, m') ∧ (∀ q, q ∈ qs → q) ∧
       ∀ E' H' w', Good C (m' ++ dropM s.2 (keysOp s.1 o.op)) E' H' w' → NearT s.1 rest E E' → HLe H H' → v.Ok H' → K ((⟨(SV.denL E s.1).toArray, []⟩ : Act).put o.dst (v.den E')) w' := by
      intro hh
      obtain ⟨qs, v, out, he, h1, h2⟩ := h hh
      unfold outC at he
      split at he
      ·rename_i ps v' m' hout
       split at he
       ·rename_i hro'
        simp only [Bool.and_eq_true] at hro'
        cases he
        refine ⟨_, _, _, hout, h1, fun E' H' w' hg => h2 E' H' w' ?_⟩
        have hm' : m' = pickM s.2 (keysOp s.1 o.op) := by
         have hro := hro hro'.1
         cases r with
         | bad => simp [outOf] at hout
         | val ps v m2 =>
          simp only [outOf, Option.some.injEq, Prod.mk.injEq] at hout
          obtain ⟨_, _, rfl⟩ := hout
          exact hro hro'.2
         | all ps gg =>
          simp only [outOf, Option.some.injEq, Prod.mk.injEq] at hout
          obtain ⟨_, _, rfl⟩ := hout
          exact hro _ hro'.2
        rw [hm'] at hg
        exact hg.alike (Mem.get_cut _ _) g.keys
       ·cases he
        exact ⟨_, _, _, hout, h1, h2⟩
      ·cases he
     cases r with
     | bad => obtain ⟨_, _, _, he, _⟩ := h' (fun _ => default); simp [outOf] at he
     | val ps v m' =>
      obtain ⟨qs, v2, d, he, hq, hk⟩ := h' (fun _ => default)
      simp only [outOf, Option.some.injEq, Prod.mk.injEq] at he
      obtain ⟨rfl, rfl, rfl⟩ := he
      have hcall := hcall hq
      refine fin (T := fun v' w' => ∃ E' H', v' = v.den E' ∧ Agree key E E' ∧ HLe H H' ∧ Good C m' E' H' w' ∧ v.Ok H' ∧ Keeps _ E H w key m' E' H' w')
       (Calls.mono hcall fun e w' ⟨E', H', he, h1⟩ => ⟨_, he, E', H', rfl, h1⟩) (fun v' w' ⟨E', H', hv', ha, hle, g', hv, hkeep⟩ => ?_)
      rw [hv']
      exact hk E' H' w' (gc.beside g' ha hle hkeep k3) (near ha) hle hv
     | all ps gg =>
      have hq : ∀ q, q ∈ ps → q := by
       obtain ⟨qs, v2, d, he, hq, _⟩ := h' (fun _ => default)
       simp only [outOf, Option.some.injEq, Prod.mk.injEq] at he
       rw [he.1]; exact hq
      have hcall := hcall hq
      refine fin (T := fun v' w' => ∃ hs E' H', v' = (gg hs).1.den E' ∧ Agree key E E' ∧ HLe H H' ∧ Good C (gg hs).2 E' H' w' ∧ (gg hs).1.Ok H' ∧ Keeps _ E H w key (gg hs).2 E' H' w')
       (Calls.mono hcall fun e w' ⟨hs1, E', H', he, h1⟩ => ⟨_, he, hs1, E', H', rfl, h1⟩) (fun v' w' ⟨hs1, E', H', hv', ha, hle, g', hv, hkeep⟩ => ?_)
      obtain ⟨qs, v2, d, he, _, hk⟩ := h' hs1
      simp only [outOf, Option.some.injEq, Prod.mk.injEq] at he
      obtain ⟨rfl, rfl, rfl⟩ := he
      rw [hv']
      exact hk E' H' w' (gc.beside g' ha hle hkeep k3) (near ha) hle hv
  ·rename_i hnc
   exact plain' h

def setHs (hs : Nat → Nat → D) (i : Nat) (hh : Nat → D) : Nat → Nat → D := fun j => if j = i then hh else hs j

theorem wpOp_pure {Q : Exit → Act → World → Prop} {i : Nat} {o : Oper} {a : Act} {w : World} {v : Value} {K : Act → World → Prop} (ho : ops[i]? = some o)
  (hw : Region.wanted o (yielded ops a.tmps) = false) (hv : v = Go.undef) (hK : K (a.put o.dst v) w) : wpOp P ops Q i K a w := by
 unfold wpOp
 simp only [ho, hw]
 subst hv
 exact hK
theorem stepR_sound (hcs : cs.Ok P) {Q : Exit → Act → World → Prop} {rest : List SFrm} {s : List SV × Mem} {i : Nat} {E : Env} {H : HV} {w : World} {hs : Nat → Nat → D}
  (g : Good C s.2 E H w) (hok : SV.OkL H s.1) (f1 : dstKey depth (dstOf ops i) ∉ SV.keysL s.1) (f2 : dstKey depth (dstOf ops i) ∉ Mem.named s.2)
  (f3 : ∀ f, f ∈ rest → dstKey depth (dstOf ops i) ∉ SV.keysL f.tmps) {K : Act → World → Prop}
  (h : ∀ hh : Nat → D, ∃ dec e, stepR P cs ops depth dec (setHs hs i hh) s i = .ok e ∧ (∀ p, p ∈ e.ps → p) ∧
   ∀ E' H' w', Good C (applyR ops s i e).2 E' H' w' → NearT s.1 rest E E' → HLe H H' → SV.OkL H' (applyR ops s i e).1 → K ⟨(SV.denL E' (applyR ops s i e).1).toArray, []⟩ w') :
  wpOp P ops Q i K ⟨(SV.denL E s.1).toArray, []⟩ w := by
 -- what is put into the slot
 have put : ∀ {e : Eff} {E' : Env} {H' : HV} {w' : World} {o : Oper}, ops[i]? = some o → Good C (e.mem s.2) E' H' w' → NearT s.1 rest E E' → HLe H H' → e.v.Ok H' →
   (∀ E' H' w', Good C (applyR ops s i e).2 E' H' w' → NearT s.1 rest E E' → HLe H H' → SV.OkL H' (applyR ops s i e).1 → K ⟨(SV.denL E' (applyR ops s i e).1).toArray, []⟩ w') →
   K ((⟨(SV.denL E s.1).toArray, []⟩ : Act).put o.dst (e.v.den E')) w' := by
  intro e E' H' w' o ho hg hn hle hv hk
  have := hk E' H' w' hg hn hle (okL_putS (SV.OkL.mono hle _ hok) hv)
  simp only [applyR, dstOf, ho, Option.bind_some] at this
  rw [← put_den, hn.1] at this
  exact this
 obtain ⟨dec0, e0, hs0, hp0, hk0⟩ := h (fun _ => default)
 obtain ⟨o, ho⟩ := stepR_some hs0
 simp only [dstOf, ho, Option.bind_some] at f1 f2 f3
 unfold stepR at hs0
 simp only [ho] at hs0
 split at hs0
 ·cases hs0
 ·cases hs0
 ·rename_i ps hg
  cases hs0
  exact wpOp_pure ho ((guardD_spec (E := E) hp0).2 hg) (v := SV.undef.den E) (by simp [SV.den]) (put (e := ⟨ps, .undef, [], none, none, none, none⟩) ho g ⟨rfl, rfl⟩ (HLe.refl _) (by simp [SV.Ok]) hk0)
 ·rename_i ps hg
  have hw : Region.wanted o (yielded ops (SV.denL E s.1).toArray) = true := by
   refine (guardD_spec (E := E) (fun p hp => ?_)).1 hg
   split at hs0
   ·unfold pickD at hs0
    split at hs0
    ·cases hs0; exact hp0 p hp
    ·split at hs0
     ·cases hs0; exact hp0 p (List.mem_append_left _ hp)
     ·cases hs0
    ·cases hs0
   ·split at hs0
    ·exact hp0 p ((lookD_ok hs0).1 p hp)
    ·cases hs0
   ·split at hs0
    ·split at hs0
     ·split at hs0
      ·cases hs0; exact hp0 p hp
      ·cases hs0
     ·cases hs0
    ·split at hs0
     ·cases hs0; exact hp0 p (List.mem_append_left _ hp)
     ·cases hs0
   ·split at hs0
    ·cases hs0; exact hp0 p (List.mem_append_left _ hp)
    ·cases hs0
   ·split at hs0
    ·cases hs0; exact hp0 p hp
    ·cases hs0
   ·split at hs0
    ·cases hs0; exact hp0 p (List.mem_append_left _ hp)
    ·cases hs0
  split at hs0
  ·rename_i t x y hop
   -- a choice
   have pk : ∀ d : Bool, s.1[t]? = some (.lb d) ∨ (∃ b, s.1[t]? = some (.bool b) ∧ b = d) → ∀ {ps' : List Prop}, e0 = ⟨ps', if d then evS s.1 x else evS s.1 y, [], none, none, none, none⟩ → wpOp P ops Q i K ⟨(SV.denL E s.1).toArray, []⟩ w := by
    intro d hd ps' he
    subst he
    have hv : (if d then evS s.1 x else evS s.1 y).Ok H := by cases d <;> exact ok_evS hok _
    have hc : (⟨(SV.denL E s.1).toArray, []⟩ : Act).eval (.tmp t) = .bool d := by
     rw [den_evS]
     simp only [evS, List.getD_eq_getElem?_getD]
     rcases hd with hd | ⟨b, hd, rfl⟩
     ·rw [hd]; simp [SV.den]
     ·rw [hd]; simp [SV.den]
    refine wpOp_run ho hw (v := (if d then evS s.1 x else evS s.1 y).den E) (.inl ?_) (put (e := ⟨ps', if d then evS s.1 x else evS s.1 y, [], none, none, none, none⟩) ho g ⟨rfl, rfl⟩ (HLe.refl _) hv hk0)
    unfold execOp
    simp only [hop, hc, Sem.run_bind, run_bool, Result.andThen_ok]
    cases d
    ·simp only [Bool.false_eq_true, if_false, den_evS, Sem.run_pure]
    ·simp only [if_true, den_evS, Sem.run_pure]
   unfold pickD at hs0
   split at hs0
   ·rename_i d hd
    cases hs0
    exact pk d (.inl hd) rfl
   ·rename_i b hd
    split at hs0
    ·rename_i d hdec
     cases hs0
     exact pk d (.inr ⟨b, hd, hp0 _ (by simp)⟩) rfl
    ·cases hs0
   ·cases hs0
  ·rename_i t x j ok hop
   -- what a map holds
   split at hs0
   ·rename_i l d hlk
    obtain ⟨_, hT, hout, hv⟩ := lookD_ok hs0
    have hv := hv hp0
    have gd : Good C (pickM s.2 (keysOp s.1 (.lookup t x j ok))) E H w := (g.cut (keysOp_nodup _ _)).sub (List.sublist_append_left _ _)
    obtain ⟨e1, e2⟩ := lookR_spec (P := P) gd hlk
    rw [← hv] at e1 e2
    refine wpOp_run ho hw (v := e0.v.den E) (.inl ?_) (put ho (by simp only [Eff.mem, hout.1, hout.2.1, hout.2.2]; exact g) ⟨rfl, rfl⟩ (HLe.refl _) e2 hk0)
    unfold execOp
    simp only [hop, Sem.run_bind]
    rw [den_evS, den_evS, e1]
    rfl
   ·cases hs0
  ·rename_i t a x hop
   -- a store
   have other : ∀ {ps : List Prop}, guardD dec0 ops o s.1 = .yes ps → (∀ K off, evS s.1 a ≠ .ptr K off) → wpOp P ops Q i K ⟨(SV.denL E s.1).toArray, []⟩ w := by
    intro ps hg hna
    refine runOp_sound (key := dstKey depth o.dst) hcs ho hw g hok f1 f2 f3 fun hh => ?_
    obtain ⟨dec1, e1, hs1, hp1, hk1⟩ := h hh
    unfold stepR at hs1
    simp only [ho] at hs1
    split at hs1
    ·cases hs1
    ·cases hs1
    ·rename_i ps1 hg1
     cases hs1
     have := (guardD_spec (E := E) hp1).2 hg1
     rw [hw] at this
     cases this
    ·rename_i ps1 hg1
     simp only [hop] at hs1
     split at hs1
     ·rename_i qs v out hr
      cases hs1
      rw [show setHs hs i hh i = hh from by simp [setHs]] at hr
      rw [hop]
      exact ⟨qs, v, out, hr, fun q hq => hp1 q (List.mem_append_right _ hq), fun E' H' w' hg' hn hle hv => put (e := ⟨ps1 ++ qs, v, keysOp s.1 (.store t a x), out, none, none, none⟩) ho hg' hn hle hv hk1⟩
     ·cases hs1
   split at hs0
   ·rename_i K off ha
    split at hs0
    ·rename_i vs n ty cs' h1 h2 h3
     split at hs0
     ·rename_i hc
      cases hs0
      obtain ⟨w', e1, e2, _⟩ := storeR_spec (P := P) (t := t) (a := evS s.1 a) (v := evS s.1 x) (ps := []) (m' := s.2.set K (.cells ty (cs'.take off ++ vs ++ cs'.drop (off + n)))) g (ok_evS hok x) (by
       simp only [storeR, ha, h1, h2, h3]; rw [if_pos hc]) (by simp)
      refine wpOp_run ho hw (v := SV.undef.den E) (.inr ⟨?_, by simp [SV.den]⟩) (put (e := ⟨ps, .undef, [K], none, none, some (K, off, vs), none⟩) ho (by simp only [Eff.mem, h3, updC, hc.1]; exact e2) ⟨rfl, rfl⟩ (HLe.refl _) (by simp [SV.Ok]) hk0)
      unfold execOp
      simp only [hop, Sem.run_bind]
      rw [den_evS, den_evS, e1]
      rfl
     ·cases hs0
    ·cases hs0
   ·rename_i hna
    exact other hg hna
  ·rename_i t a hop
   -- a load
   split at hs0
   ·rename_i qs v hr
    cases hs0
    have gd : Good C (pickM s.2 (keysOp s.1 (.load t a))) E H w := (g.cut (keysOp_nodup _ _)).sub (List.sublist_append_left _ _)
    simp only [runOp, quickOp] at hr
    split at hr
    ·rename_i ps' v' m' he
     cases hr
     obtain ⟨e1, e2⟩ := oprQ_spec (P := P) (o := o) (v := v) (ps := qs) gd hok (by simp only [oprQ, hop, quickOp, if_true, he]) (fun p hp => hp0 p (List.mem_append_right _ hp))
     exact wpOp_run ho hw (.inl e1) (put (e := ⟨ps ++ qs, v, keysOp s.1 (.load t a), none, none, none, _⟩) ho g ⟨rfl, rfl⟩ (HLe.refl _) e2 hk0)
    ·cases hr
   ·cases hs0
  ·rename_i t x j v hop
   split at hs0
   ·rename_i K k n hins
    cases hs0
    have hget : ∃ o', s.2.get K = some o' := by obtain ⟨_, _, es, _, _, _, _, h5, _⟩ := insOk_spec hins; exact ⟨_, h5⟩
    obtain ⟨o', ho'⟩ := hget
    obtain ⟨w', e1, e2, _⟩ := insR_spec (P := P) (t := t) (x := evS s.1 x) (i := evS s.1 j) (v := evS s.1 v) (m' := s.2.set K (insO k n (evS s.1 v) o')) g (ok_evS hok v) (by simp only [insR, hins, ho'])
    refine wpOp_run ho hw (v := SV.undef.den E) (.inr ⟨?_, by simp [SV.den]⟩) (put (e := ⟨ps, .undef, [K], none, some (K, k, n, evS s.1 v), none, none⟩) ho (by simp only [Eff.mem, ho']; exact e2) ⟨rfl, rfl⟩ (HLe.refl _) (by simp [SV.Ok]) hk0)
    unfold execOp
    simp only [hop, Sem.run_bind]
    rw [den_evS, den_evS, den_evS, e1]
    rfl
   ·cases hs0
  ·rename_i hnp hnl hns hnd hni
   refine runOp_sound (key := dstKey depth o.dst) hcs ho hw g hok f1 f2 f3 fun hh => ?_
   obtain ⟨dec1, e1, hs1, hp1, hk1⟩ := h hh
   unfold stepR at hs1
   simp only [ho] at hs1
   split at hs1
   ·cases hs1
   ·cases hs1
   ·rename_i ps1 hg1
    cases hs1
    have := (guardD_spec (E := E) hp1).2 hg1
    rw [hw] at this
    cases this
   ·rename_i ps1 hg1
    split at hs1
    ·rename_i qs v out hr
     cases hs1
     rw [show setHs hs i hh i = hh from by simp [setHs]] at hr
     exact ⟨qs, v, out, hr, fun q hq => hp1 q (List.mem_append_right _ hq), fun E' H' w' hg' hn hle hv => put (e := ⟨ps1 ++ qs, v, keysOp s.1 o.op, out, none, none, none⟩) ho hg' hn hle hv hk1⟩
    ·cases hs1
theorem stepR_det {dec dec' : List (Nat × Bool)} {hs hs' : Nat → Nat → D} {s : List SV × Mem} {i : Nat} {e e' : Eff} (hh : hs i = hs' i)
  (h : stepR P cs ops depth dec hs s i = .ok e) (h' : stepR P cs ops depth dec' hs' s i = .ok e') (hp : ∀ p, p ∈ e.ps → p) (hp' : ∀ p, p ∈ e'.ps → p) : e = e' := by
 have dd : ∀ {b d d' : Bool}, b = d → b = d' → d = d' := fun h1 h2 => h1.symm.trans h2
 have guard : ∀ {o : Oper} {ps ps' : List Prop}, (∀ p, p ∈ ps → p) → (∀ p, p ∈ ps' → p) →
   (guardD dec ops o s.1 = .yes ps → guardD dec' ops o s.1 = .yes ps' → ps = ps') ∧ (guardD dec ops o s.1 = .no ps → guardD dec' ops o s.1 = .no ps' → ps = ps') := by
  intro o ps ps' q q'
  unfold guardD
  cases o.guard with
  | none => constructor <;> (intro h1 h2; cases h1 <;> cases h2 <;> rfl)
  | some x =>
   obtain ⟨j, want⟩ := x
   simp only
   cases (ops[j]?).bind (·.dst) with
   | none => constructor <;> (intro h1 h2; cases h1)
   | some t =>
    simp only
    cases s.1[t]? with
    | none => constructor <;> (intro h1 h2; cases h1)
    | some v =>
     cases v
     case undef => constructor <;> (intro h1 h2; cases h1 <;> cases h2 <;> rfl)
     case lb b =>
      constructor
      ·intro h1 h2
       simp only at h1 h2
       rw [h1] at h2
       cases h2; rfl
      ·intro h1 h2
       simp only at h1 h2
       rw [h1] at h2
       cases h2; rfl
     case bool b =>
      simp only
      cases decOf dec t with
      | none => constructor <;> (intro h1 h2; cases h1)
      | some d =>
       cases decOf dec' t with
       | none => constructor <;> (intro h1 h2; cases h2)
       | some d' =>
        constructor
        ·intro h1 h2
         simp only at h1 h2
         split at h1
         ·cases h1
          split at h2
          ·cases h2
           rw [dd (q _ (List.mem_singleton.2 rfl)) (q' _ (List.mem_singleton.2 rfl))]
          ·cases h2
         ·cases h1
        ·intro h1 h2
         simp only at h1 h2
         split at h1
         ·cases h1
         ·cases h1
          split at h2
          ·cases h2
          ·cases h2
           rw [dd (q _ (List.mem_singleton.2 rfl)) (q' _ (List.mem_singleton.2 rfl))]
     all_goals (constructor <;> (intro h1 h2; cases h1))
 -- the guard's own word is part of what was assumed
 have word : ∀ {dec : List (Nat × Bool)} {hs : Nat → Nat → D} {e : Eff} {o : Oper}, ops[i]? = some o → stepR P cs ops depth dec hs s i = .ok e → (∀ p, p ∈ e.ps → p) →
   (∃ ps, guardD dec ops o s.1 = .no ps ∧ (∀ p, p ∈ ps → p)) ∨ ∃ ps, guardD dec ops o s.1 = .yes ps ∧ (∀ p, p ∈ ps → p) := by
  intro dec hs e o ho h hp
  unfold stepR at h
  simp only [ho] at h
  split at h
  ·cases h
  ·cases h
  ·rename_i ps hg; cases h; exact .inl ⟨ps, hg, hp⟩
  ·rename_i ps hg
   refine .inr ⟨ps, hg, fun p hpp => ?_⟩
   split at h
   ·unfold pickD at h
    split at h
    ·cases h; exact hp p hpp
    ·split at h
     ·cases h; exact hp p (List.mem_append_left _ hpp)
     ·cases h
    ·cases h
   ·split at h
    ·exact hp p ((lookD_ok h).1 p hpp)
    ·cases h
   ·split at h
    ·split at h
     ·split at h
      ·cases h; exact hp p hpp
      ·cases h
     ·cases h
    ·split at h
     ·cases h; exact hp p (List.mem_append_left _ hpp)
     ·cases h
   ·split at h
    ·cases h; exact hp p (List.mem_append_left _ hpp)
    ·cases h
   ·split at h
    ·cases h; exact hp p hpp
    ·cases h
   ·split at h
    ·cases h; exact hp p (List.mem_append_left _ hpp)
    ·cases h
 obtain ⟨o, ho⟩ := stepR_some h
 have w1 := word ho h hp
 have w2 := word ho h' hp'
 let E : Env := ⟨fun _ => 0, fun _ => (none, 0), fun _ => .bool false⟩
 unfold stepR at h h'
 simp only [ho] at h h'
 rcases w1 with ⟨ps, hg, hq⟩ | ⟨ps, hg, hq⟩ <;> rcases w2 with ⟨ps', hg', hq'⟩ | ⟨ps', hg', hq'⟩
 ·simp only [hg] at h
  simp only [hg'] at h'
  cases h; cases h'
  rw [(guard (o := o) hq hq').2 hg hg']
 ·have a := (guardD_spec (E := E) hq).2 hg
  have b := (guardD_spec (E := E) hq').1 hg'
  rw [a] at b; cases b
 ·have a := (guardD_spec (E := E) hq).1 hg
  have b := (guardD_spec (E := E) hq').2 hg'
  rw [a] at b; cases b
 ·have hpe := (guard (o := o) hq hq').1 hg hg'
  subst hpe
  simp only [hg] at h
  simp only [hg'] at h'
  split at h
  ·rename_i t x y hop
   simp only [hop] at h'
   unfold pickD at h h'
   split at h
   ·rename_i d hd
    simp only [hd] at h'
    cases h; cases h'; rfl
   ·rename_i b hd
    simp only [hd] at h'
    split at h
    ·rename_i d hdec
     cases h
     split at h'
     ·rename_i d' hdec'
      cases h'
      have := dd (hp _ (by simp) : b = d) (hp' _ (by simp) : b = d')
      subst this
      rfl
     ·cases h'
    ·cases h
   ·cases h
  ·rename_i t x j ok hop
   simp only [hop] at h'
   split at h
   ·rename_i l d hlk
    simp only [hlk] at h'
    exact lookD_det h h' hp hp'
   ·cases h
  ·rename_i t a x hop
   simp only [hop, ← hh] at h'
   rw [h] at h'
   cases h'
   rfl
  ·rename_i t a hop
   simp only [hop, ← hh] at h'
   rw [h] at h'
   cases h'
   rfl
  ·rename_i t x j v hop
   simp only [hop] at h'
   rw [h] at h'
   cases h'
   rfl
  ·rename_i hnp hnl hns hnd hni
   split at h'
   ·rename_i t x y hop; exact absurd hop (hnp t x y)
   ·rename_i t x j ok hop; exact absurd hop (hnl t x j ok)
   ·rename_i t a x hop; exact absurd hop (hns t a x)
   ·rename_i t a hop; exact absurd hop (hnd t a)
   ·rename_i t x j v hop; exact absurd hop (hni t x j v)
   ·rw [← hh] at h'
    rw [h] at h'
    cases h'
    rfl

theorem goes_det {dec dec' : List (Nat × Bool)} {hs hs' : Nat → Nat → D} {r r' : Nat → Eff} : ∀ {l : List Nat} {s : List SV × Mem}, (∀ i, i ∈ l → hs i = hs' i) →
  Goes P cs ops depth dec hs r l s → Goes P cs ops depth dec' hs' r' l s → (∀ i, i ∈ l → ∀ p, p ∈ (r i).ps → p) → (∀ i, i ∈ l → ∀ p, p ∈ (r' i).ps → p) → allR ops r l s = allR ops r' l s
 | [], _, _, _, _, _, _ => rfl
 | i :: l, s, hh, ⟨h1, h2⟩, ⟨h3, h4⟩, hp, hp' => by
  have e := stepR_det (hh i List.mem_cons_self) h1 h3 (hp i List.mem_cons_self) (hp' i List.mem_cons_self)
  simp only [allR]
  rw [← e] at h4 ⊢
  exact goes_det (fun j hj => hh j (List.mem_cons_of_mem _ hj)) h2 h4 (fun j hj => hp j (List.mem_cons_of_mem _ hj)) (fun j hj => hp' j (List.mem_cons_of_mem _ hj))
end
end Sx
end
section
namespace Sx
open Go RowKit

section
variable {P : Program} {C : Ctx} {cs : Ctrs} {ops : Array Oper} {depth : Nat}
structure Chk (P : Program) (cs : Ctrs) (ops : Array Oper) (depth : Nat) (s : List SV × Mem) (hs : Nat → Nat → D) (Fin : List SV × Mem → Prop) : Prop where
 ex : ∃ dec r, Goes P cs ops depth dec hs r (List.range ops.size) s ∧ (∀ i, i < ops.size → ∀ p, p ∈ (r i).ps → p) ∧
  (∀ x i, x < i → i < ops.size → ((masks ops.toList []).getD i 0).testBit x = false → Indep ops x i (r x) (r i)) ∧
  (∀ j i, j < ops.size → i < ops.size → i ≠ j → ((masks ops.toList []).getD j 0).testBit i = false → dstKey depth (dstOf ops i) ∉ (r j).named) ∧
  (allR ops r (List.range ops.size) s).2.Pairwise (fun x y => x.1 ≠ y.1) ∧ Fin (allR ops r (List.range ops.size) s)

theorem Begun.nodup {l : List Nat} (h : Begun ops l) : l.Nodup ∧ ∀ i, i ∈ l → i < ops.size := by
 induction h with
 | nil => simp
 | snoc h hi hlt hp ih =>
  refine ⟨?_, fun k hk => ?_⟩
  ·rw [List.nodup_append]
   exact ⟨ih.1, by simp, fun a ha b hb => by rw [List.mem_singleton.1 hb]; exact fun e => hi (e ▸ ha)⟩
  ·rcases List.mem_append.1 hk with hk | hk
   ·exact ih.2 k hk
   ·rw [List.mem_singleton.1 hk]; exact hlt

theorem named_set {m : Mem} {K : Nat} {o : OBlk} {key : Nat} (h : key ∈ Mem.named (m.set K o)) : key ∈ Mem.named m ∨ key ∈ o.keys := by
 induction m with
 | nil => cases h
 | cons x r ih =>
  obtain ⟨j, p⟩ := x
  simp only [Mem.set] at h
  split at h
  ·simp only [Mem.named, List.flatMap_cons, List.mem_append, List.mem_cons] at h ⊢
   rcases h with (h | h) | h
   ·exact .inl (.inl (.inl h))
   ·exact .inr h
   ·exact .inl (.inr h)
  ·simp only [Mem.named, List.flatMap_cons, List.mem_append, List.mem_cons] at h ⊢ ih
   rcases h with h | h
   ·exact .inl (.inl h)
   ·rcases ih h with h | h
    ·exact .inl (.inr h)
    ·exact .inr h

theorem named_get {m : Mem} {K : Nat} {o : OBlk} {key : Nat} (hg : m.get K = some o) (h : key ∈ o.keys) : key ∈ Mem.named m := by
 simp only [Mem.named, List.mem_flatMap, List.mem_cons]
 exact ⟨_, Mem.get_mem hg, .inr h⟩

theorem insO_keys {k : IntKind} {n : Int} {v : SV} {o : OBlk} {key : Nat} (h : key ∈ (insO k n v o).keys) : key ∈ o.keys ∨ key ∈ v.keys := by
 cases o with
 | map es =>
  simp only [insO, OBlk.keys, List.mem_flatMap, List.mem_append] at h ⊢
  obtain ⟨e, he, h⟩ := h
  rcases List.mem_cons.1 ((insE_perm k n v es).subset he) with rfl | he
  ·simp [SV.keys] at h; exact .inr h
  ·exact .inl ⟨e, he, h⟩
 | _ => exact .inl h

theorem keysL_splice {cs vs : List SV} {a b key : Nat} (h : key ∈ SV.keysL (cs.take a ++ vs ++ cs.drop b)) : key ∈ SV.keysL cs ∨ key ∈ SV.keysL vs := by
 simp only [SV.mem_keysL, List.mem_append] at h ⊢
 obtain ⟨x, (hx | hx) | hx, hk⟩ := h
 ·exact .inl ⟨x, List.mem_of_mem_take hx, hk⟩
 ·exact .inr ⟨x, hx, hk⟩
 ·exact .inl ⟨x, List.mem_of_mem_drop hx, hk⟩

theorem named_apply {s : List SV × Mem} {i : Nat} {e : Eff} {key : Nat} (h1 : key ∉ SV.keysL s.1) (h2 : key ∉ Mem.named s.2) (h3 : key ∉ e.named) :
  key ∉ SV.keysL (applyR ops s i e).1 ∧ key ∉ Mem.named (applyR ops s i e).2 := by
 simp only [Eff.named, List.mem_append, not_or] at h3
 obtain ⟨⟨⟨n1, n2⟩, n3⟩, n4⟩ := h3
 constructor
 ·simp only [applyR]
  cases dstOf ops i with
  | none => exact h1
  | some d =>
   simp only [putS]
   intro hk
   obtain ⟨x, hx, hkx⟩ := SV.mem_keysL.1 hk
   rcases List.mem_or_eq_of_mem_set hx with hx | rfl
   ·exact h1 (SV.mem_keysL.2 ⟨x, hx, hkx⟩)
   ·exact n1 hkx
 ·simp only [applyR, Eff.mem]
  cases hs : e.st with
  | some x =>
   obtain ⟨K, off, vs⟩ := x
   rw [hs] at n4
   simp only [List.mem_cons, not_or] at n4
   simp only
   cases hg : s.2.get K with
   | none => exact h2
   | some o =>
    intro hk
    rcases named_set hk with hk | hk
    ·exact h2 hk
    ·cases o with
     | cells t cs =>
      simp only [updC, OBlk.keys] at hk
      rcases keysL_splice hk with hk | hk
      ·exact h2 (named_get hg hk)
      ·exact n4.2 hk
     | _ => exact h2 (named_get hg hk)
  | none =>
   simp only
   cases hi : e.ins with
   | some x =>
    obtain ⟨K, kd, n, v⟩ := x
    rw [hi] at n3
    simp only [List.mem_cons, not_or] at n3
    simp only
    cases hg : s.2.get K with
    | none => exact h2
    | some o =>
     intro hk
     rcases named_set hk with hk | hk
     ·exact h2 hk
     ·rcases insO_keys hk with hk | hk
      ·exact h2 (named_get hg hk)
      ·exact n3.2 hk
   | none =>
    simp only
    cases ho : e.out with
    | none => exact h2
    | some m =>
     simp only
     rw [ho] at n2
     intro hk
     simp only [Mem.named, List.flatMap_append, List.mem_append] at hk
     rcases hk with hk | hk
     ·exact n2 hk
     ·exact named_drop h2 hk

theorem named_all {r : Nat → Eff} {key : Nat} : ∀ {l : List Nat} {s : List SV × Mem}, key ∉ SV.keysL s.1 → key ∉ Mem.named s.2 → (∀ i, i ∈ l → key ∉ (r i).named) →
  key ∉ SV.keysL (allR ops r l s).1 ∧ key ∉ Mem.named (allR ops r l s).2
 | [], _, h1, h2, _ => ⟨h1, h2⟩
 | i :: l, s, h1, h2, h3 => by
  obtain ⟨a, b⟩ := named_apply (ops := ops) (i := i) h1 h2 (h3 i List.mem_cons_self)
  exact named_all (l := l) (s := applyR ops s i (r i)) a b fun j hj => h3 j (List.mem_cons_of_mem _ hj)

theorem len_le : ∀ {n : Nat} {l : List Nat}, l.Nodup → (∀ i, i ∈ l → i < n) → l.length ≤ n
 | 0, l, _, h => by
  cases l with
  | nil => simp
  | cons x r => have := h x List.mem_cons_self; omega
 | n + 1, l, hn, h => by
  have h1 : (l.erase n).Nodup := hn.erase n
  have h2 := len_le h1 (n := n) fun i hi => by
   have := (List.Nodup.mem_erase_iff hn).1 hi
   have := h i this.2
   omega
  have h3 := List.length_erase (a := n) (l := l)
  split at h3 <;> omega

theorem full_of_len {l : List Nat} {n : Nat} (hnd : l.Nodup) (hlt : ∀ i, i ∈ l → i < n) (hlen : n ≤ l.length) : ∀ i, i < n → i ∈ l := by
 intro i hi
 rcases Classical.em (i ∈ l) with h | h
 ·exact h
 ·have := len_le (n := n) (List.nodup_cons.2 ⟨h, hnd⟩) fun j hj => by
   rcases List.mem_cons.1 hj with rfl | hj
   ·exact hi
   ·exact hlt j hj
  simp only [List.length_cons] at this
  omega

theorem left_full {n : Nat} {l : List Nat} (h : ∀ i, i < n → i ∈ l) : left n l = [] := by
 simp only [left, List.filter_eq_nil_iff, List.mem_range]
 intro i hi
 simp [h i hi]
def Qi (P : Program) (f : FuncId) (ri : Option (Array Oper × List Nat)) (aw : Option Tmp) (k : List Item) (R : Value → World → Prop) : Exit → Act → World → Prop :=
 fun e a w => e = .normal ∧ CFrm.run P ⟨f, ri, aw, k, a⟩ w R
theorem ord_sound (hcs : cs.Ok P) {R : Value → World → Prop} {f : FuncId} {aw : Option Tmp} {k : List Item} {rest : List SFrm} {s0 : List SV × Mem} {E0 : Env} {ri : Option (Array Oper × List Nat)}
  (hchk : ∀ hs, Chk P cs ops depth s0 hs fun s => Runs P C ⟨⟨f, ri, aw, k, s.1⟩, rest, s.2⟩ R)
  (hlt : ∀ i, i < ops.size → ∀ j, j ∈ predsOf ops i → j < i)
  (hfr : ∀ i, i < ops.size → dstKey depth (dstOf ops i) ∉ SV.keysL s0.1 ∧ dstKey depth (dstOf ops i) ∉ Mem.named s0.2 ∧ ∀ f, f ∈ rest → dstKey depth (dstOf ops i) ∉ SV.keysL f.tmps) :
  ∀ (fuel : Nat) (l : List Nat) (listed : Array Bool) (dec : List (Nat × Bool)) (hs : Nat → Nat → D) (r : Nat → Eff) (E : Env) (H : HV) (w : World),
   fuel + l.length = ops.size → Begun ops l → listed.size = ops.size → (∀ j, j < ops.size → listed[j]? = some (l.contains j)) →
   Goes P cs ops depth dec hs r l s0 → (∀ i, i ∈ l → ∀ p, p ∈ (r i).ps → p) →
   Good C (allR ops r l s0).2 E H w → SV.OkL H (allR ops r l s0).1 → (∀ f, f ∈ rest → SV.OkL H f.tmps) → rest.map (SFrm.den E) = rest.map (SFrm.den E0) →
   wpAny P .any ops (Qi P f ri aw k (restOf P (rest.map (SFrm.den E0)) R)) fuel listed ⟨(SV.denL E (allR ops r l s0).1).toArray, []⟩ w := by
 intro fuel
 -- where all have come up
 have fin : ∀ (l : List Nat) (dec : List (Nat × Bool)) (hs : Nat → Nat → D) (r : Nat → Eff) (E : Env) (H : HV) (w : World), Begun ops l → (∀ i, i < ops.size → i ∈ l) →
   Goes P cs ops depth dec hs r l s0 → (∀ i, i ∈ l → ∀ p, p ∈ (r i).ps → p) →
   Good C (allR ops r l s0).2 E H w → SV.OkL H (allR ops r l s0).1 → (∀ f, f ∈ rest → SV.OkL H f.tmps) → rest.map (SFrm.den E) = rest.map (SFrm.den E0) →
   Qi P f ri aw k (restOf P (rest.map (SFrm.den E0)) R) .normal ⟨(SV.denL E (allR ops r l s0).1).toArray, []⟩ w := by
  intro l dec hs r E H w hb hfull hgo hp g ok okr hrest
  obtain ⟨dec', r', h1, h2, h3, h4, h5, h6⟩ := (hchk hs).ex
  obtain ⟨g1, g2⟩ := begun_goes h1 h3 hb
  rw [left_full hfull, List.append_nil] at g1 g2
  have e := goes_det (fun _ _ => rfl) hgo g1 hp (fun i hi => h2 i (hb.nodup.2 i hi))
  rw [e] at g ok ⊢
  have gg := g.alike (m' := (allR ops r' (List.range ops.size) s0).2) (fun k => (g2.2 k).symm) h5
  have := h6 E H w gg ⟨by rw [g2.1]; exact ok, okr⟩
  rw [stkRun_eq, hrest] at this
  rw [← g2.1]
  exact ⟨rfl, this⟩
 induction fuel with
 | zero =>
  intro l listed dec hs r E H w hlen hb hsz hl hgo hp g ok okr hrest
  have hfull := full_of_len hb.nodup.1 hb.nodup.2 (by omega)
  refine ⟨?_, fin l dec hs r E H w hb hfull hgo hp g ok okr hrest⟩
  rw [List.eq_nil_iff_forall_not_mem]
  intro i hi
  obtain ⟨h0, o, ho, _⟩ := mem_ready.1 hi
  have hi' : i < ops.size := (Array.getElem?_eq_some_iff.1 ho).1
  have := hl i hi'
  simp only [Array.getD_eq_getD_getElem?, this, Option.getD_some] at h0
  simp [hfull i hi'] at h0
 | succ fuel ih =>
  intro l listed dec hs r E H w hlen hb hsz hl hgo hp g ok okr hrest
  refine ⟨fun hnil => ?_, fun i hi => ?_⟩
  ·-- the first that has not come up may come up
   refine fin l dec hs r E H w hb (fun i hi => ?_) hgo hp g ok okr hrest
   induction i using Nat.strongRecOn with
   | _ i ihi =>
    rcases Classical.em (i ∈ l) with h | h
    ·exact h
    ·exfalso
     have hmem : i ∈ Region.ready .any ops listed := by
      rw [mem_ready]
      refine ⟨by simp [Array.getD_eq_getD_getElem?, hl i hi, h], ops[i], by simp [hi], fun e he hb2 => ?_⟩
      have hpe : e.on ∈ predsOf ops i := by
       simp only [predsOf, Array.getElem?_eq_getElem hi, List.mem_map, List.mem_filter]
       exact ⟨e, ⟨by simpa using he, hb2⟩, rfl⟩
      have hlt' := hlt i hi _ hpe
      have := ihi e.on hlt' (by omega)
      simp [Array.getD_eq_getD_getElem?, hl e.on (by omega), this]
     rw [hnil] at hmem
     cases hmem
  ·obtain ⟨h0, o, ho, hall⟩ := mem_ready.1 hi
   have hi' : i < ops.size := (Array.getElem?_eq_some_iff.1 ho).1
   have hil : i ∉ l := by
    have := hl i hi'
    simp only [Array.getD_eq_getD_getElem?, this, Option.getD_some] at h0
    simpa using h0
   have hb' : Begun ops (l ++ [i]) := by
    refine .snoc hb hil hi' fun j hj => ?_
    simp only [predsOf, ho, List.mem_map, List.mem_filter] at hj
    obtain ⟨e, ⟨he, hbe⟩, rfl⟩ := hj
    have h1 := hall e (by simpa using he) hbe
    have hjlt : e.on < ops.size := by
     rcases Nat.lt_or_ge e.on ops.size with h | h
     ·exact h
     ·rw [Array.getD_eq_getD_getElem?, Array.getElem?_eq_none (by omega)] at h1; simp at h1
    simp only [Array.getD_eq_getD_getElem?, hl _ hjlt, Option.getD_some] at h1
    simpa using h1
   obtain ⟨f1, f2, f3⟩ := hfr i hi'
   -- nothing names its key yet
   have hnk : dstKey depth (dstOf ops i) ∉ SV.keysL (allR ops r l s0).1 ∧ dstKey depth (dstOf ops i) ∉ Mem.named (allR ops r l s0).2 := by
    obtain ⟨dec', r', h1, h2, h3, h4, h5, h6⟩ := (hchk hs).ex
    have g1 := (goes_append.1 (begun_goes h1 h3 hb).1).1
    rw [goes_det (fun _ _ => rfl) hgo g1 hp (fun i hi => h2 i (hb.nodup.2 i hi))]
    refine named_all f1 f2 fun j hj => h4 j i (hb.nodup.2 j hj) hi' (fun e => hil (e ▸ hj)) ?_
    cases hbit : ((masks ops.toList []).getD j 0).testBit i with
    | false => rfl
    | true => exact absurd (masks_table j (by rw [masks_length]; simpa using hb.nodup.2 j hj) l hb (fun q hq => hb.closed j hj q hq) i hbit) hil
   refine stepR_sound (rest := rest) (depth := depth) (hs := hs) hcs g ok hnk.1 hnk.2 f3 fun hh => ?_
   obtain ⟨dec', r', h1, h2, h3, h4, h5, h6⟩ := (hchk (setHs hs i hh)).ex
   have g1 := (goes_append.1 (begun_goes h1 h3 hb').1).1
   have g2 := goes_append.1 g1
   have hag : ∀ j, j ∈ l → hs j = setHs hs i hh j := fun j hj => by
    have : j ≠ i := fun e => hil (e ▸ hj)
    simp [setHs, this]
   have e := goes_det hag hgo g2.1 hp (fun i hi => h2 i (hb.nodup.2 i hi))
   have hstep := g2.2.1
   rw [← e] at hstep
   refine ⟨dec', r' i, hstep, h2 i hi', fun E' H' w' g' hnear hle okk => ?_⟩
   have e2 : applyR ops (allR ops r l s0) i (r' i) = allR ops r' (l ++ [i]) s0 := by rw [allR_append, e]; rfl
   rw [e2] at g' okk ⊢
   refine ih (l ++ [i]) (listed.setIfInBounds i true) dec' (setHs hs i hh) r' E' H' w' (by simp; omega) hb' (by simpa using hsz) (fun j hj => ?_) g1
    (fun j hj => h2 j (hb'.nodup.2 j hj)) g' okk (fun f hf => SV.OkL.mono hle _ (okr f hf)) (hnear.2.trans hrest)
   by_cases hji : j = i
   ·subst hji
    simp [hsz, hj]
   ·rw [Array.getElem?_setIfInBounds_ne (Ne.symm hji), hl j hj]
    simp [hji]

/-! ### The walk and its check, to be computed -/

inductive CRes where
 | done (s : List SV × Mem) (es : List Eff)
 | ask (t : Nat) (b : Bool)
 | bad

def CRes.cons (e : Eff) : CRes → CRes
 | .done s es => .done s (e :: es)
 | r => r

noncomputable def Eff.nz {β : Type _} (e : Eff) (k : Eff → β) : β :=
 match e with
 | ⟨ps, v, T, out, ins, st, ld⟩ => v.nz2 fun v => match out with
  | none => k ⟨ps, v, T, none, ins, st, ld⟩
  | some m => nzM m fun m => k ⟨ps, v, T, some m, ins, st, ld⟩

theorem Eff.nz_eq {β : Type _} (e : Eff) (k : Eff → β) : e.nz k = k e := by
 obtain ⟨ps, v, T, out, ins, st, ld⟩ := e
 simp only [Eff.nz, SV.nz2_eq]
 cases out with
 | none => rfl
 | some m => simp only [nzM_eq]

noncomputable def canonR (P : Program) (cs : Ctrs) (ops : Array Oper) (depth : Nat) (dec : List (Nat × Bool)) (hs : Nat → Nat → D) : List Nat → List SV × Mem → CRes
 | [], s => .done s []
 | i :: l, s => match stepR P cs ops depth dec hs s i with
  | .ok e => e.nz fun e => nzS (applyR ops s i e).1 (applyR ops s i e).2 fun t m => (canonR P cs ops depth dec hs l (t, m)).cons e
  | .ask t b => .ask t b
  | .bad => .bad

theorem canonR_spec {dec : List (Nat × Bool)} {hs : Nat → Nat → D} : ∀ {n a : Nat} {s s' : List SV × Mem} {es : List Eff}, canonR P cs ops depth dec hs (List.range' a n) s = .done s' es →
  ∀ r : Nat → Eff, (∀ k, k < n → r (a + k) = es.getD k ⟨[], .undef, [], none, none, none, none⟩) → es.length = n ∧ Goes P cs ops depth dec hs r (List.range' a n) s ∧ allR ops r (List.range' a n) s = s'
 | 0, a, s, s', es, h, r, _ => by
  simp only [List.range'_zero, canonR, CRes.done.injEq] at h
  obtain ⟨rfl, rfl⟩ := h
  exact ⟨rfl, trivial, rfl⟩
 | n + 1, a, s, s', es, h, r, hr => by
  simp only [List.range'_succ, canonR] at h
  split at h
  ·rename_i e he
   simp only [Eff.nz_eq, nzS_eq] at h
   cases hc : canonR P cs ops depth dec hs (List.range' (a + 1) n) (applyR ops s a e) with
   | done s2 es2 =>
    rw [show ((applyR ops s a e).1, (applyR ops s a e).2) = applyR ops s a e from rfl, hc] at h
    simp only [CRes.cons, CRes.done.injEq] at h
    obtain ⟨rfl, rfl⟩ := h
    have h0 : r a = e := by have := hr 0 (by omega); simpa using this
    obtain ⟨i1, i2, i3⟩ := canonR_spec hc r (fun k hk => by have := hr (k + 1) (by omega); rw [show a + 1 + k = a + (k + 1) from by omega]; simpa using this)
    refine ⟨by simp [i1], ?_, ?_⟩
    ·simp only [List.range'_succ, Goes, h0]; exact ⟨he, i2⟩
    ·simp only [List.range'_succ, allR, h0]; exact i3
   | ask t b => rw [show ((applyR ops s a e).1, (applyR ops s a e).2) = applyR ops s a e from rfl, hc] at h; cases h
   | bad => rw [show ((applyR ops s a e).1, (applyR ops s a e).2) = applyR ops s a e from rfl, hc] at h; cases h
  ·cases h
  ·cases h
structure Row where
 anc : Nat
 dst : Nat
 uses : Nat
 rd : Nat
 wr : Nat
 key : Nat
 named : Nat
 ins : Nat
 st : Option (Nat × Nat × Nat)
 ld : Option (Nat × Nat × Nat)

def maskD (d : Option Tmp) : Nat := match d with | some t => 2 ^ t | none => 0

def rowOf (ops : Array Oper) (depth : Nat) (ms : List Nat) (i : Nat) (e : Eff) : Row :=
 ⟨ms.getD i 0, maskD (dstOf ops i), maskN (usesAt ops i), maskN e.T, maskN e.wr, dstKey depth (dstOf ops i), maskN e.named, match e.ins with | some (K, _) => K + 1 | none => 0, match e.st with | some (K, o, vs) => some (K, o, vs.length) | none => none, e.ld⟩

def apartB (a b : Option (Nat × Nat × Nat)) : Bool :=
 match a, b with
 | some (K, o, n), some (K', o', n') => Nat.beq K K' && (Nat.ble (o + n) o' || Nat.ble (o' + n') o)
 | _, _ => false

def posB (a : Option (Nat × Nat × Nat)) : Bool :=
 match a with
 | some (_, _, n) => Nat.blt 0 n
 | none => false

theorem apartB_spec {a b : Option (Nat × Nat × Nat)} (h : apartB a b = true) : ∃ K o n o' n', a = some (K, o, n) ∧ b = some (K, o', n') ∧ Apart o n o' n' := by
 unfold apartB at h
 split at h
 ·rename_i K o n K' o' n'
  simp only [Bool.and_eq_true, Bool.or_eq_true] at h
  have hK := Nat.eq_of_beq_eq_true h.1
  subst hK
  refine ⟨K, o, n, o', n', rfl, rfl, ?_⟩
  rcases h.2 with h | h
  ·exact .inl (Nat.le_of_ble_eq_true h)
  ·exact .inr (Nat.le_of_ble_eq_true h)
 ·cases h

def pairOk (x : Nat) (a b : Row) : Bool :=
 b.anc.testBit x || (Nat.beq (a.dst &&& (b.uses ||| b.dst)) 0 && Nat.beq (b.dst &&& a.uses) 0 &&
  ((Nat.beq (a.wr &&& (b.rd ||| b.wr)) 0 && Nat.beq (b.wr &&& a.rd) 0) || (Nat.beq a.ins b.ins && !Nat.beq a.ins 0) ||
   (apartB a.ld b.st && posB a.ld) || (apartB a.st b.ld && posB b.ld) || apartB a.st b.st))

def pairsX : Nat → List Row → Row → Bool
 | _, [], _ => true
 | x, a :: r, b => pairOk x a b && pairsX (x + 1) r b

def pairsAll : List Row → List Row → Bool
 | _, [] => true
 | pre, b :: r => pairsX 0 pre b && pairsAll (pre ++ [b]) r
def forb (j : Nat) (b : Row) : Nat → List Row → Nat
 | _, [] => 0
 | i, a :: r => if Nat.beq i j || b.anc.testBit i then forb j b (i + 1) r else 2 ^ a.key ||| forb j b (i + 1) r

def namedAll (rows : List Row) : Nat → List Row → Bool
 | _, [] => true
 | j, b :: r => Nat.beq (b.named &&& forb j b 0 rows) 0 && namedAll rows (j + 1) r

def rowsFrom (ops : Array Oper) (depth : Nat) (ms : List Nat) : Nat → List Eff → List Row
 | _, [] => []
 | i, e :: r => rowOf ops depth ms i e :: rowsFrom ops depth ms (i + 1) r

def keysMask (depth : Nat) : List Oper → Nat
 | [] => 0
 | o :: r => 2 ^ dstKey depth o.dst ||| keysMask depth r

def distinct : Nat → List Nat → Bool
 | _, [] => true
 | s, k :: r => !s.testBit k && distinct (2 ^ k ||| s) r

def below : Nat → List Nat → Bool
 | _, [] => true
 | i, a :: r => Nat.blt a (2 ^ i) && below (i + 1) r

def checkR (ops : Array Oper) (depth : Nat) (ms : List Nat) (es : List Eff) (m : Mem) : Bool :=
 pairsAll [] (rowsFrom ops depth ms 0 es) && namedAll (rowsFrom ops depth ms 0 es) 0 (rowsFrom ops depth ms 0 es) && distinct 0 (m.map (·.1))

def checkS (ops : Array Oper) (depth : Nat) (ms : List Nat) (s : List SV × Mem) (rest : List SFrm) : Bool :=
 below 0 ms && Nat.beq (maskN (SV.keysL s.1 ++ Mem.named s.2 ++ rest.flatMap fun f => SV.keysL f.tmps) &&& keysMask depth ops.toList) 0

theorem pairsX_spec {b : Row} : ∀ {l : List Row} {x : Nat}, pairsX x l b = true → ∀ k a, l[k]? = some a → pairOk (x + k) a b = true
 | [], _, _, k, a, h => by simp at h
 | c :: r, x, h, k, a, hk => by
  simp only [pairsX, Bool.and_eq_true] at h
  cases k with
  | zero => simp at hk; subst hk; exact h.1
  | succ k => have := pairsX_spec h.2 k a (by simpa using hk); rwa [show x + 1 + k = x + (k + 1) from by omega] at this

theorem pairsAll_spec : ∀ {l pre : List Row}, pairsAll pre l = true → ∀ i x a b, x < i → pre.length ≤ i → (pre ++ l)[i]? = some b → (pre ++ l)[x]? = some a → pairOk x a b = true
 | [], pre, _, i, x, a, b, _, h1, h2, _ => by rw [List.append_nil, List.getElem?_eq_none h1] at h2; cases h2
 | c :: r, pre, h, i, x, a, b, hx, h1, h2, h3 => by
  simp only [pairsAll, Bool.and_eq_true] at h
  by_cases hi : i = pre.length
  ·subst hi
   rw [List.getElem?_append_right (Nat.le_refl _)] at h2
   simp at h2
   subst h2
   rw [List.getElem?_append_left hx] at h3
   have := pairsX_spec h.1 x a h3
   simpa using this
  ·refine pairsAll_spec (l := r) (pre := pre ++ [c]) h.2 i x a b hx (by simp; omega) (by simpa using h2) (by simpa using h3)

theorem forb_bit {j : Nat} {b : Row} : ∀ {l : List Row} {i : Nat} {k : Nat} {a : Row}, l[k]? = some a → i + k ≠ j → b.anc.testBit (i + k) = false → (forb j b i l).testBit a.key = true
 | [], _, _, _, h, _, _ => by simp at h
 | c :: r, i, 0, a, h, h1, h2 => by
  simp at h
  subst h
  simp only [Nat.add_zero] at h1 h2
  have : Nat.beq i j = false := by
   rw [← Bool.not_eq_true]
   intro e
   exact h1 (Nat.eq_of_beq_eq_true e)
  simp [forb, this, h2, Nat.testBit_or]
 | c :: r, i, k + 1, a, h, h1, h2 => by
  have ih := forb_bit (l := r) (i := i + 1) (k := k) (a := a) (j := j) (b := b) (by simpa using h) (by omega) (by rw [show i + 1 + k = i + (k + 1) from by omega]; exact h2)
  simp only [forb]
  split
  ·exact ih
  ·simp [Nat.testBit_or, ih]

theorem namedAll_spec {rows : List Row} : ∀ {l : List Row} {j : Nat}, namedAll rows j l = true → ∀ k b, l[k]? = some b → (b.named &&& forb (j + k) b 0 rows) = 0
 | [], _, _, k, b, h => by simp at h
 | c :: r, j, h, k, b, hk => by
  simp only [namedAll, Bool.and_eq_true] at h
  cases k with
  | zero => simp at hk; subst hk; exact Nat.eq_of_beq_eq_true h.1
  | succ k => have := namedAll_spec h.2 k b (by simpa using hk); rwa [show j + 1 + k = j + (k + 1) from by omega] at this

theorem rowsFrom_get {ms : List Nat} : ∀ {es : List Eff} {i k : Nat}, k < es.length → (rowsFrom ops depth ms i es)[k]? = some (rowOf ops depth ms (i + k) (es.getD k ⟨[], .undef, [], none, none, none, none⟩))
 | [], _, _, h => by simp at h
 | e :: r, i, 0, _ => by simp [rowsFrom]
 | e :: r, i, k + 1, h => by
  have := rowsFrom_get (ms := ms) (es := r) (i := i + 1) (k := k) (by simpa using h)
  simp only [rowsFrom, List.getElem?_cons_succ, this, List.getD_cons_succ]
  rw [show i + 1 + k = i + (k + 1) from by omega]

theorem keysMask_bit : ∀ {l : List Oper} {i : Nat} {o : Oper}, l[i]? = some o → (keysMask depth l).testBit (dstKey depth o.dst) = true
 | [], _, _, h => by simp at h
 | c :: r, 0, o, h => by simp at h; subst h; simp [keysMask, Nat.testBit_or]
 | c :: r, i + 1, o, h => by simp [keysMask, Nat.testBit_or, keysMask_bit (l := r) (i := i) (o := o) (by simpa using h)]

theorem distinct_spec : ∀ {l : List Nat} {s : Nat}, distinct s l = true → l.Nodup ∧ ∀ k, k ∈ l → s.testBit k = false
 | [], _, _ => by simp
 | k :: r, s, h => by
  simp only [distinct, Bool.and_eq_true, Bool.not_eq_true'] at h
  obtain ⟨i1, i2⟩ := distinct_spec h.2
  refine ⟨List.nodup_cons.2 ⟨fun hk => ?_, i1⟩, fun j hj => ?_⟩
  ·have := i2 k hk
   simp [Nat.testBit_or] at this
  ·rcases List.mem_cons.1 hj with rfl | hj
   ·exact h.1
   ·have := i2 j hj
    simp only [Nat.testBit_or, Bool.or_eq_false_iff] at this
    exact this.2

theorem below_spec : ∀ {l : List Nat} {i : Nat}, below i l = true → ∀ k, k < l.length → l.getD k 0 < 2 ^ (i + k)
 | [], _, _, _, h => by simp at h
 | a :: r, i, h, 0, _ => by
  simp only [below, Bool.and_eq_true] at h
  have := h.1
  simp only [Nat.blt_eq] at this
  simpa using this
 | a :: r, i, h, k + 1, hk => by
  simp only [below, Bool.and_eq_true] at h
  have := below_spec h.2 k (by simpa using hk)
  rw [show i + 1 + k = i + (k + 1) from by omega] at this
  simpa using this

theorem masks_old : ∀ {r : List Oper} {acc : List Nat} {i : Nat}, i < acc.length → (masks r acc).getD i 0 = acc.getD i 0
 | [], _, _, _ => rfl
 | o :: r, acc, i, h => by
  simp only [masks]
  rw [masks_old (by simp; omega), List.getD_eq_getElem?_getD, List.getElem?_append_left h, ← List.getD_eq_getElem?_getD]

theorem maskOf_on {acc : List Nat} {o : Oper} {e : Edge} (he : e ∈ o.after.toList) (hb : Region.binds .any e = true) : (maskOf acc o).testBit e.on = true := by
 unfold maskOf
 generalize o.after.toList = es at he
 induction es with
 | nil => cases he
 | cons x r ih =>
  simp only [List.foldr_cons]
  rcases List.mem_cons.1 he with rfl | he
  ·simp [hb, Nat.testBit_or]
  ·split
   ·rw [Nat.testBit_or, ih he, Bool.or_true]
   ·exact ih he

theorem masks_at : ∀ {r : List Oper} {acc : List Nat} {k : Nat} {o : Oper}, r[k]? = some o → ∃ acc', (masks r acc).getD (acc.length + k) 0 = maskOf acc' o
 | [], _, _, _, h => by simp at h
 | o :: r, acc, 0, o', h => by
  simp at h
  subst h
  refine ⟨acc, ?_⟩
  simp only [masks, Nat.add_zero]
  rw [masks_old (by simp), List.getD_eq_getElem?_getD, List.getElem?_append_right (Nat.le_refl _)]
  simp
 | o :: r, acc, k + 1, o', h => by
  obtain ⟨acc', h'⟩ := masks_at (r := r) (acc := acc ++ [maskOf acc o]) (k := k) (o := o') (by simpa using h)
  refine ⟨acc', ?_⟩
  simp only [masks]
  rw [← h']
  congr 1
  simp; omega

theorem masks_direct {i j : Nat} (hi : i < ops.size) (hj : j ∈ predsOf ops i) : ((masks ops.toList []).getD i 0).testBit j = true := by
 obtain ⟨acc, h⟩ := masks_at (r := ops.toList) (acc := []) (k := i) (o := ops[i]) (by simp [hi])
 simp only [List.length_nil, Nat.zero_add] at h
 rw [h]
 simp only [predsOf, Array.getElem?_eq_getElem hi, List.mem_map, List.mem_filter] at hj
 obtain ⟨e, ⟨he, hb⟩, rfl⟩ := hj
 exact maskOf_on he hb

theorem maskD_bit {d : Option Tmp} {k : Nat} (h : d = some k) : (maskD d).testBit k = true := by subst h; simp [maskD]

theorem indep_of_pair {x i : Nat} {ex ei : Eff} {ms : List Nat} (h : pairOk x (rowOf ops depth ms x ex) (rowOf ops depth ms i ei) = true) (hb : (ms.getD i 0).testBit x = false) : Indep ops x i ex ei := by
 simp only [pairOk, rowOf, hb, Bool.false_or, Bool.and_eq_true] at h
 obtain ⟨⟨h1, h2⟩, h3⟩ := h
 have h1 := Nat.eq_of_beq_eq_true h1
 have h2 := Nat.eq_of_beq_eq_true h2
 refine ⟨fun k hk => ?_, fun k hk => ?_, ?_⟩
 ·have := mask_apart h1 k (maskD_bit hk)
  simp only [Nat.testBit_or, Bool.or_eq_false_iff, maskN_bit] at this
  refine ⟨by simpa using this.1, fun e => ?_⟩
  rw [maskD_bit e] at this
  exact absurd this.2 (by simp)
 ·have := mask_apart h2 k (maskD_bit hk)
  rw [maskN_bit] at this
  simpa using this
 ·simp only [Bool.or_eq_true] at h3
  have sto : ∀ {e : Eff} {K o n : Nat}, (match e.st with | some (K, o, vs) => some (K, o, vs.length) | none => none) = some (K, o, n) → ∃ vs, e.st = some (K, o, vs) ∧ n = vs.length := by
   intro e K o n h
   split at h
   ·rename_i K' o' vs hs
    simp only [Option.some.injEq, Prod.mk.injEq] at h
    obtain ⟨rfl, rfl, rfl⟩ := h
    exact ⟨vs, hs, rfl⟩
   ·cases h
  have pos : ∀ {a : Option (Nat × Nat × Nat)} {K o n : Nat}, posB a = true → a = some (K, o, n) → 0 < n := by
   intro a K o n h ha
   subst ha
   simpa [posB] using h
  rcases h3 with (((h3 | h3) | h3) | h3) | h3
  ·left
   rw [Bool.and_eq_true] at h3
   obtain ⟨h3, h4⟩ := h3
   have h3 := Nat.eq_of_beq_eq_true h3
   have h4 := Nat.eq_of_beq_eq_true h4
   refine ⟨fun k hk => ?_, fun k hk => ?_⟩
   ·have := mask_apart h3 k (by rw [maskN_bit]; simpa using hk)
    simp only [Nat.testBit_or, Bool.or_eq_false_iff, maskN_bit] at this
    exact ⟨by simpa using this.1, by simpa using this.2⟩
   ·have := mask_apart h4 k (by rw [maskN_bit]; simpa using hk)
    rw [maskN_bit] at this
    simpa using this
  ·right; left
   rw [Bool.and_eq_true, Bool.not_eq_true'] at h3
   obtain ⟨h3, h4⟩ := h3
   have h3 := Nat.eq_of_beq_eq_true h3
   cases hx : ex.ins with
   | none => rw [hx] at h4; simp at h4
   | some x =>
    obtain ⟨K, x⟩ := x
    cases hy : ei.ins with
    | none => rw [hx, hy] at h3; simp at h3
    | some y =>
     obtain ⟨K', y⟩ := y
     rw [hx, hy] at h3
     simp at h3
     subst h3
     exact ⟨_, _, _, rfl, rfl⟩
  ·right; right; left
   rw [Bool.and_eq_true] at h3
   obtain ⟨K, o, n, o', n', h5, h6, h7⟩ := apartB_spec h3.1
   obtain ⟨vs, h8, rfl⟩ := sto h6
   exact ⟨K, o, n, o', vs, h5, h8, h7, pos h3.2 h5⟩
  ·right; right; right; left
   rw [Bool.and_eq_true] at h3
   obtain ⟨K, o, n, o', n', h5, h6, h7⟩ := apartB_spec h3.1
   obtain ⟨vs, h8, rfl⟩ := sto h5
   exact ⟨K, o, vs, o', n', h8, h6, h7, pos h3.2 h6⟩
  ·right; right; right; right
   obtain ⟨K, o, n, o', n', h5, h6, h7⟩ := apartB_spec h3
   obtain ⟨vs, h8, rfl⟩ := sto h5
   obtain ⟨vs', h9, rfl⟩ := sto h6
   exact ⟨K, o, vs, o', vs', h8, h9, h7⟩

theorem chk_of {s0 s : List SV × Mem} {hs : Nat → Nat → D} {dec : List (Nat × Bool)} {es : List Eff} {Fin : List SV × Mem → Prop}
  (hc : canonR P cs ops depth dec hs (List.range ops.size) s0 = .done s es) (hk : checkR ops depth (masks ops.toList []) es s.2 = true)
  (hp : ∀ e, e ∈ es → ∀ p, p ∈ e.ps → p) (hfin : Fin s) : Chk P cs ops depth s0 hs Fin := by
 rw [List.range_eq_range'] at hc
 let r : Nat → Eff := fun k => es.getD k ⟨[], .undef, [], none, none, none, none⟩
 obtain ⟨h1, h2, h3⟩ := canonR_spec hc r (fun k _ => by simp [r])
 rw [← List.range_eq_range'] at h2 h3
 simp only [checkR, Bool.and_eq_true] at hk
 obtain ⟨⟨k1, k2⟩, k3⟩ := hk
 have row : ∀ i, i < ops.size → (rowsFrom ops depth (masks ops.toList []) 0 es)[i]? = some (rowOf ops depth (masks ops.toList []) i (r i)) := fun i hi => by
  have := rowsFrom_get (ops := ops) (depth := depth) (ms := masks ops.toList []) (es := es) (i := 0) (k := i) (by omega)
  simpa [r] using this
 refine ⟨dec, r, h2, fun i hi p hpp => ?_, fun x i hxi hi hb => ?_, fun j i hj hi hij hb => ?_, ?_, by rw [h3]; exact hfin⟩
 ·have hm : r i ∈ es := by
   simp only [r]
   rw [List.getD_eq_getElem?_getD, List.getElem?_eq_getElem (by omega)]
   simp
  exact hp _ hm p hpp
 ·exact indep_of_pair (depth := depth) (pairsAll_spec (pre := []) k1 i x _ _ hxi (Nat.zero_le _) (by simpa using row i hi) (by simpa using row x (by omega))) hb
 ·have h5 := namedAll_spec k2 j _ (row j hj)
  rw [Nat.zero_add] at h5
  have h6 := forb_bit (j := j) (b := rowOf ops depth (masks ops.toList []) j (r j)) (i := 0) (row i hi) (by omega) (by simpa [rowOf] using hb)
  intro hmem
  have h7 := mask_apart h5 (dstKey depth (dstOf ops i)) (by simp only [rowOf, maskN_bit]; simpa using hmem)
  simp only [rowOf] at h6 h7
  rw [h6] at h7
  cases h7
 ·rw [h3]
  have := (distinct_spec k3).1
  rw [List.nodup_iff_pairwise_ne, List.pairwise_map] at this
  exact this

theorem checkS_spec {s : List SV × Mem} {rest : List SFrm} (h : checkS ops depth (masks ops.toList []) s rest = true) :
  (∀ i, i < ops.size → ∀ j, j ∈ predsOf ops i → j < i) ∧
  (∀ i, i < ops.size → dstKey depth (dstOf ops i) ∉ SV.keysL s.1 ∧ dstKey depth (dstOf ops i) ∉ Mem.named s.2 ∧ ∀ f, f ∈ rest → dstKey depth (dstOf ops i) ∉ SV.keysL f.tmps) := by
 simp only [checkS, Bool.and_eq_true] at h
 obtain ⟨h1, h2⟩ := h
 refine ⟨fun i hi j hj => ?_, fun i hi => ?_⟩
 ·have hb := below_spec h1 i (by rw [masks_length]; simpa using hi)
  rw [Nat.zero_add] at hb
  have hbit : ((masks ops.toList []).getD i 0).testBit j = true := masks_direct hi hj
  rcases Nat.lt_or_ge j i with hlt | hge
  ·exact hlt
  ·have := Nat.testBit_lt_two_pow (x := (masks ops.toList []).getD i 0) (i := j) (Nat.lt_of_lt_of_le hb (Nat.pow_le_pow_right (by omega) hge))
   rw [hbit] at this
   cases this
 ·have hm := Nat.eq_of_beq_eq_true h2
  have ho : ops.toList[i]? = some ops[i] := by simp [hi]
  have hk := keysMask_bit (depth := depth) ho
  have hd : dstOf ops i = ops[i].dst := by simp [dstOf, hi]
  rw [hd]
  have hno : dstKey depth ops[i].dst ∉ SV.keysL s.1 ++ Mem.named s.2 ++ rest.flatMap fun f => SV.keysL f.tmps := by
   intro hmem
   have := mask_apart hm _ (by rw [maskN_bit]; simpa using hmem)
   rw [hk] at this
   cases this
  simp only [List.mem_append, List.mem_flatMap, not_or, not_exists, not_and] at hno
  exact ⟨hno.1.1, hno.1.2, fun f hf => hno.2 f hf⟩
end
end Sx
end
section
namespace Sx
open Go RowKit

section
variable {P : Program} {ops : Array Oper} {Q : Exit → Act → World → Prop}
def forcedR (ops : Array Oper) (n : Nat) : Bool :=
  decide (n ≤ ops.size) &&
  (List.range ops.size).all (fun i => (predsOf ops i).all (fun j => decide (j < i)) &&
    (match ops[i]? with
     | some o => match o.guard with
       | some (g, _) => decide (g < i)
       | none => true
     | none => true)) &&
  (List.range ops.size).all fun i => decide (i < n) || (List.range i).all fun j => ((masks ops.toList []).getD i 0).testBit j

theorem forcedR_spec {n : Nat} (h : forcedR ops n = true) : n ≤ ops.size ∧ (∀ i, i < ops.size → ∀ j, j ∈ predsOf ops i → j < i) ∧
  (∀ (i : Nat) (o : Oper) (g : Nat) (b : Bool), ops[i]? = some o → o.guard = some (g, b) → g < i) ∧
  ∀ i, i < ops.size → n ≤ i → ∀ j, j < i → ((masks ops.toList []).getD i 0).testBit j = true := by
 unfold forcedR at h
 simp only [Bool.and_eq_true, decide_eq_true_eq, List.all_eq_true, List.mem_range, Bool.or_eq_true] at h
 obtain ⟨⟨h1, h2⟩, h3⟩ := h
 refine ⟨h1, fun i hi j hj => (h2 i hi).1 j hj, fun i o g b ho hg => ?_, fun i hi hn j hj => ?_⟩
 ·have hi : i < ops.size := (Array.getElem?_eq_some_iff.1 ho).1
  have := (h2 i hi).2
  rw [ho] at this
  simp only [hg, decide_eq_true_eq] at this
  exact this
 ·rcases h3 i hi with h | h
  ·omega
  ·exact h j hj
theorem ready_iff {l : List Nat} {listed : Array Bool} (hsz : listed.size = ops.size) (hl : ∀ j, j < ops.size → listed[j]? = some (l.contains j))
  (hlt : ∀ i, i < ops.size → ∀ j, j ∈ predsOf ops i → j < i) {i : Nat} : i ∈ Region.ready .any ops listed ↔ i < ops.size ∧ i ∉ l ∧ ∀ j, j ∈ predsOf ops i → j ∈ l := by
 rw [mem_ready]
 constructor
 ·rintro ⟨h0, o, ho, hall⟩
  have hi' : i < ops.size := (Array.getElem?_eq_some_iff.1 ho).1
  refine ⟨hi', ?_, fun j hj => ?_⟩
  ·have := hl i hi'
   simp only [Array.getD_eq_getD_getElem?, this, Option.getD_some] at h0
   simpa using h0
  ·have hjlt := hlt i hi' j hj
   simp only [predsOf, ho, List.mem_map, List.mem_filter] at hj
   obtain ⟨e, ⟨he, hbe⟩, rfl⟩ := hj
   have h1 := hall e (by simpa using he) hbe
   simp only [Array.getD_eq_getD_getElem?, hl _ (by omega : e.on < ops.size), Option.getD_some] at h1
   simpa using h1
 ·rintro ⟨hi, hil, hp⟩
  refine ⟨by simp [Array.getD_eq_getD_getElem?, hl i hi, hil], ops[i], by simp [hi], fun e he hb2 => ?_⟩
  have hpe : e.on ∈ predsOf ops i := by
   simp only [predsOf, Array.getElem?_eq_getElem hi, List.mem_map, List.mem_filter]
   exact ⟨e, ⟨by simpa using he, hb2⟩, rfl⟩
  have hlt' := hlt i hi _ hpe
  simp [Array.getD_eq_getD_getElem?, hl e.on (by omega), hp _ hpe]

theorem listed_step {l : List Nat} {listed : Array Bool} (hsz : listed.size = ops.size) (hl : ∀ j, j < ops.size → listed[j]? = some (l.contains j)) {i : Nat} (hi : i < ops.size) :
  (listed.setIfInBounds i true).size = ops.size ∧ ∀ j, j < ops.size → (listed.setIfInBounds i true)[j]? = some ((l ++ [i]).contains j) := by
 refine ⟨by simpa using hsz, fun j hj => ?_⟩
 by_cases hji : j = i
 ·subst hji; simp [hsz, hj]
 ·rw [Array.getElem?_setIfInBounds_ne (Ne.symm hji), hl j hj]
  simp [hji]
theorem wpAny_tail (hlt : ∀ i, i < ops.size → ∀ j, j ∈ predsOf ops i → j < i) {n : Nat}
  (hm : ∀ i, i < ops.size → n ≤ i → ∀ j, j < i → ((masks ops.toList []).getD i 0).testBit j = true) :
  ∀ (fuel m : Nat) (l : List Nat) (listed : Array Bool) (a : Act) (w : World), m + fuel = ops.size → n ≤ m → Begun ops l → (∀ j, j ∈ l ↔ j < m) → listed.size = ops.size →
   (∀ j, j < ops.size → listed[j]? = some (l.contains j)) → wpOps P ops Q (List.range' m fuel) a w → wpAny P .any ops Q fuel listed a w := by
 intro fuel
 induction fuel with
 | zero =>
  intro m l listed a w hmf hn hb hmem hsz hl h
  refine ⟨?_, h⟩
  rw [List.eq_nil_iff_forall_not_mem]
  intro i hi
  obtain ⟨h1, h2, _⟩ := (ready_iff hsz hl hlt).1 hi
  exact h2 ((hmem i).2 (by omega))
 | succ fuel ih =>
  intro m l listed a w hmf hn hb hmem hsz hl h
  have hmlt : m < ops.size := by omega
  refine ⟨fun hnil => ?_, fun i hi => ?_⟩
  ·have : m ∈ Region.ready .any ops listed := (ready_iff hsz hl hlt).2 ⟨hmlt, fun hh => by have := (hmem m).1 hh; omega, fun j hj => (hmem j).2 (hlt m hmlt j hj)⟩
   rw [hnil] at this; cases this
  ·obtain ⟨h1, h2, h3⟩ := (ready_iff hsz hl hlt).1 hi
   have him : i = m := by
    have hge : ¬ i < m := fun hh => h2 ((hmem i).2 hh)
    rcases Nat.lt_or_ge m i with h4 | h4
    ·have := masks_table i (by rw [masks_length]; simpa using h1) l hb h3 m (hm i h1 (by omega) m h4)
     have := (hmem m).1 this
     omega
    ·omega
   subst him
   rw [List.range'_succ, wpOps_cons] at h
   obtain ⟨s1, s2⟩ := listed_step hsz hl h1
   refine wpOp_mono (fun a' w' h' => ih (i + 1) (l ++ [i]) _ a' w' (by omega) (by omega) (.snoc hb h2 h1 h3) (fun j => ?_) s1 s2 h') h
   rw [List.mem_append, hmem j, List.mem_singleton]
   omega

theorem extract_get {n : Nat} (hn : n ≤ ops.size) {i : Nat} (hi : i < n) : (ops.extract 0 n)[i]? = ops[i]? := by
 rw [Array.getElem?_extract]
 have : i < min n ops.size - 0 := by omega
 simp; omega

theorem preds_extract {n : Nat} (hn : n ≤ ops.size) {i : Nat} (hi : i < n) : predsOf (ops.extract 0 n) i = predsOf ops i := by
 unfold predsOf; rw [extract_get hn hi]

theorem wpOp_extract {n : Nat} (hn : n ≤ ops.size) {i : Nat} (hi : i < n) (hg : ∀ (i : Nat) (o : Oper) (g : Nat) (b : Bool), ops[i]? = some o → o.guard = some (g, b) → g < i) {Q' : Exit → Act → World → Prop}
  (hQ : ∀ e a w, Q' e a w → e = .normal) {K K' : Act → World → Prop} (hK : ∀ a w, K' a w → K a w) {a : Act} {w : World} (h : wpOp P (ops.extract 0 n) Q' i K' a w) : wpOp P ops Q i K a w := by
 unfold wpOp at h ⊢
 rw [extract_get hn hi] at h
 cases ho : ops[i]? with
 | none => rw [ho] at h; exact hK _ _ h
 | some o =>
  rw [ho] at h
  simp only at h ⊢
  have hy : Region.wanted o (yielded (ops.extract 0 n) a.tmps) = Region.wanted o (yielded ops a.tmps) := by
   unfold Region.wanted
   cases hgo : o.guard with
   | none => rfl
   | some gb =>
    obtain ⟨g, b⟩ := gb
    have := hg i o g b ho hgo
    simp only
    unfold yielded
    rw [extract_get hn (by omega)]
  rw [hy] at h
  split at h
  ·rename_i hw
   simp only [hw, if_true]
   left
   rcases h with h | ⟨_, a2, w2, h2⟩
   ·unfold Oper.wp at h ⊢
    generalize (execOp a.eval o).run P w = r at *
    cases r with
    | ok n w' =>
     cases n <;> simp only [Oper.upon] at h ⊢ <;>
      first
       | exact hK _ _ h
       | exact Calls.mono h (fun e w'' he => by cases e <;> first | exact hK _ _ he | exact absurd (hQ _ _ _ he) (by simp) | (obtain ⟨a2, w2, h2⟩ := he; exact absurd (hQ _ _ _ h2) (by simp)))
       | exact Rows.mono h (fun _ _ he => hK _ _ he)
       | exact absurd (hQ _ _ _ h) (by simp)
    | halt x w' => cases x <;> simp only [Oper.upon] at h ⊢ <;> first | exact h | exact absurd (hQ _ _ _ h) (by simp)
   ·exact absurd (hQ _ _ _ h2) (by simp)
  ·rename_i hw
   simp only [hw]
   exact hK _ _ h

theorem len_ge : ∀ (n : Nat) (l : List Nat), (∀ i, i < n → i ∈ l) → n ≤ l.length
 | 0, _, _ => Nat.zero_le _
 | n + 1, l, h => by
  have h1 := len_ge n (l.erase n) (fun i hi => (List.mem_erase_of_ne (by omega)).2 (h i (by omega)))
  rw [List.length_erase_of_mem (h n (by omega))] at h1
  have := List.length_pos_of_mem (h n (by omega))
  omega
theorem wpAny_head {n : Nat} (hf : forcedR ops n = true) {Q' : Exit → Act → World → Prop} (hQ : ∀ e a w, Q' e a w → e = .normal)
  (hfin : ∀ a w, Q' .normal a w → wpOps P ops Q (List.range' n (ops.size - n)) a w) :
  ∀ (fuel : Nat) (l : List Nat) (listed' listed : Array Bool) (a : Act) (w : World), fuel + l.length = n → Begun ops l → (∀ j, j ∈ l → j < n) →
   listed'.size = n → (∀ j, j < n → listed'[j]? = some (l.contains j)) → listed.size = ops.size → (∀ j, j < ops.size → listed[j]? = some (l.contains j)) →
   wpAny P .any (ops.extract 0 n) Q' fuel listed' a w → wpAny P .any ops Q (fuel + (ops.size - n)) listed a w := by
 obtain ⟨hn, hlt, hg, hm⟩ := forcedR_spec hf
 have hsz0 : (ops.extract 0 n).size = n := by simp; omega
 have hlt' : ∀ i, i < (ops.extract 0 n).size → ∀ j, j ∈ predsOf (ops.extract 0 n) i → j < i := by
  intro i hi j hj
  rw [hsz0] at hi
  rw [preds_extract hn hi] at hj
  exact hlt i (by omega) j hj
 intro fuel
 induction fuel with
 | zero =>
  intro l listed' listed a w hlen hb hln hs' hl' hsz hl h
  have hnod := hb.nodup.1
  have hfull : ∀ i, i < n → i ∈ l := full_of_len hnod hln (by omega)
  rw [Nat.zero_add]
  exact wpAny_tail hlt hm (ops.size - n) n l listed a w (by omega) (Nat.le_refl _) hb (fun j => ⟨hln j, hfull j⟩) hsz hl (hfin a w h.2)
 | succ fuel ih =>
  intro l listed' listed a w hlen hb hln hs' hl' hsz hl h
  rw [Nat.add_right_comm]
  have hnod := hb.nodup.1
  have hnotfull : ∃ i, i < n ∧ i ∉ l := by
   refine Classical.byContradiction fun hne => ?_
   have hall : ∀ i, i < n → i ∈ l := fun i hi => Classical.byContradiction fun h2 => hne ⟨i, hi, h2⟩
   have := len_ge n l hall
   omega
  refine ⟨fun hnil => ?_, fun i hi => ?_⟩
  ·exfalso
   obtain ⟨i0, hi0, hil0⟩ := hnotfull
   have key : ∀ i, i < n → i ∈ l := by
    intro i
    induction i using Nat.strongRecOn with
    | _ i ihi =>
     intro hin
     refine Classical.byContradiction fun hil => ?_
     have : i ∈ Region.ready .any ops listed := (ready_iff hsz hl hlt).2 ⟨by omega, hil, fun j hj => ihi j (hlt i (by omega) j hj) (by have := hlt i (by omega) j hj; omega)⟩
     rw [hnil] at this; cases this
   exact hil0 (key i0 hi0)
  ·obtain ⟨h1, h2, h3⟩ := (ready_iff hsz hl hlt).1 hi
   have hin : i < n := by
    refine Classical.byContradiction fun hge => ?_
    obtain ⟨i0, hi0, hil0⟩ := hnotfull
    exact hil0 (masks_table i (by rw [masks_length]; simpa using h1) l hb h3 i0 (hm i h1 (by omega) i0 (by omega)))
   have hr : i ∈ Region.ready .any (ops.extract 0 n) listed' :=
    (ready_iff (by rw [hs', hsz0]) (fun j hj => hl' j (by omega)) hlt').2 ⟨by omega, h2, fun j hj => by rw [preds_extract hn hin] at hj; exact h3 j hj⟩
   obtain ⟨s1, s2⟩ := listed_step hsz hl h1
   obtain ⟨t1, t2⟩ := listed_step (ops := ops.extract 0 n) (by rw [hs', hsz0]) (fun j hj => hl' j (by omega)) (by omega : i < (ops.extract 0 n).size)
   refine wpOp_extract hn hin hg hQ (fun a' w' h' => ih (l ++ [i]) _ _ a' w' (by simp; omega) (.snoc hb h2 h1 h3) (fun j hj => ?_) (by rw [t1, hsz0]) (fun j hj => t2 j (by omega)) s1 s2 h') (h.2 i hr)
   rcases List.mem_append.1 hj with hj | hj
   ·exact hln j hj
   ·rw [List.mem_singleton.1 hj]; exact hin

theorem wpOp_move {ops' : Array Oper} {i i' : Nat} (he : ops'[i']? = ops[i]?) (hg : ∀ (o : Oper) (g : Nat) (b : Bool), ops[i]? = some o → o.guard = some (g, b) → ops'[g]? = ops[g]?) {Q' : Exit → Act → World → Prop}
  (hQ : ∀ e a w, Q' e a w → e = .normal) {K K' : Act → World → Prop} (hK : ∀ a w, K' a w → K a w) {a : Act} {w : World} (h : wpOp P ops' Q' i' K' a w) : wpOp P ops Q i K a w := by
 unfold wpOp at h ⊢
 rw [he] at h
 cases ho : ops[i]? with
 | none => rw [ho] at h; exact hK _ _ h
 | some o =>
  rw [ho] at h
  simp only at h ⊢
  have hy : Region.wanted o (yielded ops' a.tmps) = Region.wanted o (yielded ops a.tmps) := by
   unfold Region.wanted
   cases hgo : o.guard with
   | none => rfl
   | some gb =>
    obtain ⟨g, b⟩ := gb
    simp only
    unfold yielded
    rw [hg o g b ho hgo]
  rw [hy] at h
  split at h
  ·rename_i hw
   simp only [hw, if_true]
   left
   rcases h with h | ⟨_, a2, w2, h2⟩
   ·unfold Oper.wp at h ⊢
    generalize (execOp a.eval o).run P w = r at *
    cases r with
    | ok n w' =>
     cases n <;> simp only [Oper.upon] at h ⊢ <;>
      first
       | exact hK _ _ h
       | exact Calls.mono h (fun e w'' he => by cases e <;> first | exact hK _ _ he | exact absurd (hQ _ _ _ he) (by simp) | (obtain ⟨a2, w2, h2⟩ := he; exact absurd (hQ _ _ _ h2) (by simp)))
       | exact Rows.mono h (fun _ _ he => hK _ _ he)
       | exact absurd (hQ _ _ _ h) (by simp)
    | halt x w' => cases x <;> simp only [Oper.upon] at h ⊢ <;> first | exact h | exact absurd (hQ _ _ _ h) (by simp)
   ·exact absurd (hQ _ _ _ h2) (by simp)
  ·rename_i hw
   simp only [hw]
   exact hK _ _ h
def valOp : Op → Bool
 | .move _ => true
 | .assign _ => true
 | .load .. => true
 | .binOp .. => true
 | .unOp .. => true
 | .convert .. => true
 | .extract .. => true
 | .fieldAddr .. => true
 | .indexAddr .. => true
 | .build .. => true
 | _ => false

theorem valOp_value {ev : Operand → Value} {o : Oper} {w w' : World} {nx : Next} (h : valOp o.op = true) (hr : (execOp ev o).run P w = .ok nx w') : ∃ v, nx = .value v := by
 have key : ∀ s : Sem Value, (do let v ← s; pure (.value v) : Sem Next).run P w = .ok nx w' → ∃ v, nx = .value v := by
  intro s hs
  rw [Sem.run_bind] at hs
  cases hq : s.run P w with
  | ok v w2 => rw [hq] at hs; simp only [Result.andThen_ok, Sem.run_pure, Result.ok.injEq] at hs; exact ⟨v, hs.1.symm⟩
  | halt x w2 => rw [hq] at hs; simp [Result.andThen] at hs
 obtain ⟨dst, op, type, pos, after, guard⟩ := o
 cases op <;> simp only [valOp, reduceCtorEq, Bool.false_eq_true] at h <;> simp only [execOp] at hr
 all_goals first
  | exact key _ hr
  | (simp only [Sem.run_pure, Result.ok.injEq] at hr; exact ⟨_, hr.1.symm⟩)

theorem wpOp_and {i : Nat} (hv : ∀ o, ops[i]? = some o → valOp o.op = true) {KA KB : Act → World → Prop} {a : Act} {w : World} (hA : wpOp P ops Q i KA a w) (hB : wpOp P ops Q i KB a w) :
  wpOp P ops Q i (fun a w => KA a w ∧ KB a w) a w := by
 unfold wpOp at hA hB ⊢
 cases ho : ops[i]? with
 | none => rw [ho] at hA hB; exact ⟨hA, hB⟩
 | some o =>
  rw [ho] at hA hB
  simp only at hA hB ⊢
  split at hA
  ·rename_i hw
   simp only [hw, if_true] at hB ⊢
   rcases hA with hA | hA
   ·rcases hB with hB | hB
    ·left
     unfold Oper.wp at hA hB ⊢
     cases hr : (execOp a.eval o).run P w with
     | ok nx w' =>
      obtain ⟨v, rfl⟩ := valOp_value (hv o ho) hr
      rw [hr] at hA hB
      simp only [Oper.upon] at hA hB ⊢
      exact ⟨hA, hB⟩
     | halt x w' =>
      rw [hr] at hA
      cases x <;> simp only [Oper.upon] at hA ⊢ <;> exact hA
    ·exact .inr hB
   ·exact .inr hA
  ·rename_i hw
   simp only [hw] at hB ⊢
   exact ⟨hA, hB⟩
def floatR (ops : Array Oper) (n : Nat) : Bool :=
  ((ops.extract 0 n).toList.all fun o => valOp o.op) &&
  decide (n + 1 < ops.size) && (predsOf ops (n + 1)).isEmpty &&
  (match ops[n + 1]? with
   | some o => o.guard.isNone
   | none => false) &&
  (List.range ops.size).all (fun i => (predsOf ops i).all (fun j => decide (j < i)) &&
    (match ops[i]? with
     | some o => match o.guard with
       | some (g, _) => decide (g < i)
       | none => true
     | none => true)) &&
  (List.range ops.size).all fun i => decide (i < n) || decide (i = n + 1) || (List.range i).all fun j => ((masks ops.toList []).getD i 0).testBit j

theorem floatR_val {n : Nat} (h : floatR ops n = true) : ∀ i, i < n → ∀ o, ops[i]? = some o → valOp o.op = true := by
 unfold floatR at h
 simp only [Bool.and_eq_true, decide_eq_true_eq, List.all_eq_true] at h
 intro i hi o ho
 refine h.1.1.1.1.1 o ?_
 rw [Array.mem_toList_iff]
 exact Array.mem_of_getElem? (i := i) (by rw [extract_get (by omega) hi]; exact ho)

theorem floatR_spec {n : Nat} (h : floatR ops n = true) : n + 1 < ops.size ∧ predsOf ops (n + 1) = [] ∧ (∃ o, ops[n + 1]? = some o ∧ o.guard = none) ∧ (∀ i, i < ops.size → ∀ j, j ∈ predsOf ops i → j < i) ∧
  (∀ (i : Nat) (o : Oper) (g : Nat) (b : Bool), ops[i]? = some o → o.guard = some (g, b) → g < i) ∧
  ∀ i, i < ops.size → n ≤ i → i ≠ n + 1 → ∀ j, j < i → ((masks ops.toList []).getD i 0).testBit j = true := by
 unfold floatR at h
 simp only [Bool.and_eq_true, decide_eq_true_eq, List.all_eq_true, List.mem_range, Bool.or_eq_true, List.isEmpty_iff] at h
 obtain ⟨⟨⟨⟨⟨_, h1⟩, h5⟩, h6⟩, h2⟩, h3⟩ := h
 refine ⟨h1, h5, ?_, fun i hi j hj => ?_, fun i o g b ho hg => ?_, fun i hi hn hne j hj => ?_⟩
 ·split at h6
  ·rename_i o ho; exact ⟨o, ho, by simpa using h6⟩
  ·cases h6
 ·exact (h2 i hi).1 j hj
 ·have hi : i < ops.size := (Array.getElem?_eq_some_iff.1 ho).1
  have := (h2 i hi).2
  rw [ho] at this
  simp only [hg, decide_eq_true_eq] at this
  exact this
 ·rcases h3 i hi with (h | h) | h
  ·omega
  ·exact absurd h hne
  ·exact h j hj
def opsF (ops : Array Oper) (n : Nat) : Array Oper := ops.extract 0 n ++ ops.extract (n + 1) (n + 2)

theorem opsF_size {n : Nat} (hn : n + 1 < ops.size) : (opsF ops n).size = n + 1 := by simp [opsF]; omega
theorem opsF_lt {n i : Nat} (hn : n + 1 < ops.size) (hi : i < n) : (opsF ops n)[i]? = ops[i]? := by
 unfold opsF
 rw [Array.getElem?_append_left (by simp; omega)]
 exact extract_get (by omega) hi
theorem opsF_n {n : Nat} (hn : n + 1 < ops.size) : (opsF ops n)[n]? = ops[n + 1]? := by
 unfold opsF
 have hs : (ops.extract 0 n).size = n := by simp; omega
 rw [Array.getElem?_append_right (by omega), hs, Nat.sub_self, Array.getElem?_extract]
 simp; omega

theorem predsF_lt {n i : Nat} (hn : n + 1 < ops.size) (hi : i < n) : predsOf (opsF ops n) i = predsOf ops i := by unfold predsOf; rw [opsF_lt hn hi]
theorem predsF_n {n : Nat} (hn : n + 1 < ops.size) (h0 : predsOf ops (n + 1) = []) : predsOf (opsF ops n) n = [] := by
 unfold predsOf at h0 ⊢; rw [opsF_n hn]; exact h0

section
variable {n : Nat} {QA QB : Exit → Act → World → Prop}
theorem wpAny_floatA (hf : floatR ops n = true) (hQA : ∀ e a w, QA e a w → e = .normal) (hA : ∀ a w, QA .normal a w → wpOps P ops Q (n :: List.range' (n + 2) (ops.size - (n + 2))) a w) :
  ∀ (fuel : Nat) (l : List Nat) (listedA listed : Array Bool) (a : Act) (w : World), fuel + l.length = n + 1 → Begun ops l → (∀ j, j ∈ l → j < n ∨ j = n + 1) → n + 1 ∈ l →
   listedA.size = n + 1 → (∀ j, j < n → listedA[j]? = some (l.contains j)) → listedA[n]? = some true → listed.size = ops.size → (∀ j, j < ops.size → listed[j]? = some (l.contains j)) →
   wpAny P .any (opsF ops n) QA fuel listedA a w → wpAny P .any ops Q (fuel + (ops.size - (n + 1))) listed a w := by
 obtain ⟨hn, hp0, _, hlt, hg, hm⟩ := floatR_spec hf
 have hszF := opsF_size (ops := ops) hn
 have hltF : ∀ i, i < (opsF ops n).size → ∀ j, j ∈ predsOf (opsF ops n) i → j < i := by
  intro i hi j hj
  rw [hszF] at hi
  rcases Nat.lt_or_ge i n with h | h
  ·rw [predsF_lt hn h] at hj; exact hlt i (by omega) j hj
  ·have : i = n := by omega
   subst this; rw [predsF_n hn hp0] at hj; cases hj
 intro fuel
 induction fuel with
 | zero =>
  intro l listedA listed a w hlen hb hln hfl hs' hl' hln' hsz hl h
  have hfull : ∀ i, i < n → i ∈ l := by
   intro i hi
   have h1 : ∀ q, q ∈ l.map (fun x => if x = n + 1 then n else x) → q < n + 1 := by
    intro q hq
    obtain ⟨x, hx, rfl⟩ := List.mem_map.1 hq
    rcases hln x hx with h | h <;> split <;> omega
   have h2 : (l.map (fun x => if x = n + 1 then n else x)).Nodup := by
    rw [List.nodup_iff_pairwise_ne, List.pairwise_map]
    refine hb.nodup.1.imp_of_mem ?_
    intro x y hx hy hne e
    apply hne
    by_cases hx1 : x = n + 1 <;> by_cases hy1 : y = n + 1
    ·omega
    ·rw [if_pos hx1, if_neg hy1] at e; rcases hln y hy with h | h <;> omega
    ·rw [if_neg hx1, if_pos hy1] at e; rcases hln x hx with h | h <;> omega
    ·rw [if_neg hx1, if_neg hy1] at e; exact e
   have := full_of_len h2 h1 (by rw [List.length_map]; omega) i (by omega)
   obtain ⟨x, hx, hxe⟩ := List.mem_map.1 this
   split at hxe
   ·omega
   ·rw [← hxe]; exact hx
  rw [Nat.zero_add, show ops.size - (n + 1) = (ops.size - (n + 2)) + 1 by omega]
  have hnl : n ∉ l := fun hh => by rcases hln n hh with h | h <;> omega
  refine ⟨fun hnil => ?_, fun i hi => ?_⟩
  ·have : n ∈ Region.ready .any ops listed := (ready_iff hsz hl hlt).2 ⟨by omega, hnl, fun j hj => hfull j (hlt n (by omega) j hj)⟩
   rw [hnil] at this; cases this
  ·obtain ⟨h1, h2, h3⟩ := (ready_iff hsz hl hlt).1 hi
   have him : i = n := by
    rcases Nat.lt_trichotomy i n with h4 | h4 | h4
    ·exact absurd (hfull i h4) h2
    ·exact h4
    ·by_cases h5 : i = n + 1
     ·subst h5; exact absurd hfl h2
     ·exact absurd (masks_table i (by rw [masks_length]; simpa using h1) l hb h3 n (hm i h1 (by omega) h5 n h4)) hnl
   subst him
   have hw := hA a w h.2
   rw [wpOps_cons] at hw
   obtain ⟨s1, s2⟩ := listed_step hsz hl h1
   refine wpOp_mono (fun a' w' h' => wpAny_tail hlt (n := i + 2) (fun q hq hge j hj => hm q hq (by omega) (by omega) j hj) (ops.size - (i + 2)) (i + 2) (l ++ [i]) _ a' w' (by omega) (Nat.le_refl _) (.snoc hb h2 h1 h3) (fun j => ?_) s1 s2 h') hw
   rw [List.mem_append, List.mem_singleton]
   constructor
   ·rintro (h | h)
    ·rcases hln j h with h | h <;> omega
    ·omega
   ·intro h
    rcases Nat.lt_trichotomy j i with h' | h' | h'
    ·exact .inl (hfull j h')
    ·exact .inr h'
    ·have : j = i + 1 := by omega
     subst this; exact .inl hfl
 | succ fuel ih =>
  intro l listedA listed a w hlen hb hln hfl hs' hl' hln' hsz hl h
  rw [Nat.add_right_comm]
  have hnot : ∃ i, i < n ∧ i ∉ l := by
   refine Classical.byContradiction fun hne => ?_
   have hall : ∀ i, i < n → i ∈ l.erase (n + 1) := fun i hi => (List.mem_erase_of_ne (by omega)).2 (Classical.byContradiction fun h2 => hne ⟨i, hi, h2⟩)
   have := len_ge n _ hall
   rw [List.length_erase_of_mem hfl] at this
   have := List.length_pos_of_mem hfl
   omega
  have hnl : n ∉ l := fun hh => by rcases hln n hh with h | h <;> omega
  refine ⟨fun hnil => ?_, fun i hi => ?_⟩
  ·exfalso
   obtain ⟨i0, hi0, hil0⟩ := hnot
   have key : ∀ i, i < n → i ∈ l := by
    intro i
    induction i using Nat.strongRecOn with
    | _ i ihi =>
     intro hin
     refine Classical.byContradiction fun hil => ?_
     have : i ∈ Region.ready .any ops listed := (ready_iff hsz hl hlt).2 ⟨by omega, hil, fun j hj => ihi j (hlt i (by omega) j hj) (by have := hlt i (by omega) j hj; omega)⟩
     rw [hnil] at this; cases this
   exact hil0 (key i0 hi0)
  ·obtain ⟨h1, h2, h3⟩ := (ready_iff hsz hl hlt).1 hi
   have hin : i < n := by
    refine Classical.byContradiction fun hge => ?_
    obtain ⟨i0, hi0, hil0⟩ := hnot
    by_cases h5 : i = n + 1
    ·subst h5; exact h2 hfl
    ·exact hil0 (masks_table i (by rw [masks_length]; simpa using h1) l hb h3 i0 (hm i h1 (by omega) h5 i0 (by omega)))
   have hlA : ∀ j, j < (opsF ops n).size → listedA[j]? = some ((l.map (fun x => if x = n + 1 then n else x)).contains j) := by
    intro j hj
    rw [hszF] at hj
    rcases Nat.lt_or_ge j n with hjn | hjn
    ·rw [hl' j hjn]
     congr 1
     rw [Bool.eq_iff_iff, List.contains_iff_mem, List.contains_iff_mem, List.mem_map]
     constructor
     ·intro hh; exact ⟨j, hh, by rw [if_neg (by omega)]⟩
     ·rintro ⟨x, hx, hxe⟩
      split at hxe
      ·omega
      ·rw [← hxe]; exact hx
    ·have : j = n := by omega
     subst this
     rw [hln']
     congr 1
     symm
     rw [List.contains_iff_mem, List.mem_map]
     exact ⟨j + 1, hfl, by simp⟩
   have hr : i ∈ Region.ready .any (opsF ops n) listedA :=
    (ready_iff (by rw [hs', hszF]) hlA hltF).2 ⟨by omega, fun hh => by
     obtain ⟨x, hx, hxe⟩ := List.mem_map.1 hh
     split at hxe
     ·omega
     ·exact h2 (hxe ▸ hx), fun j hj => by
     rw [predsF_lt hn hin] at hj
     exact List.mem_map.2 ⟨j, h3 j hj, by have := hlt i h1 j hj; rw [if_neg (by omega)]⟩⟩
   obtain ⟨s1, s2⟩ := listed_step hsz hl h1
   refine wpOp_move (opsF_lt hn hin) (fun o g b ho hgo => opsF_lt hn (by have := hg i o g b ho hgo; omega)) hQA (fun a' w' h' => ih (l ++ [i]) _ _ a' w' (by simp; omega) (.snoc hb h2 h1 h3) (fun j hj => ?_) (List.mem_append_left _ hfl) (by simpa using hs') (fun j hj => ?_) ?_ s1 s2 h') (h.2 i hr)
   ·rcases List.mem_append.1 hj with hj | hj
    ·exact hln j hj
    ·rw [List.mem_singleton.1 hj]; exact .inl hin
   ·by_cases hji : j = i
    ·subst hji
     rw [Array.getElem?_setIfInBounds_self_of_lt (by omega)]; simp
    ·rw [Array.getElem?_setIfInBounds_ne (Ne.symm hji), hl' j hj]; simp [hji]
   ·rw [Array.getElem?_setIfInBounds_ne (by omega)]; exact hln'
theorem wpAny_float (hf : floatR ops n = true) (hQA : ∀ e a w, QA e a w → e = .normal) (hQB : ∀ e a w, QB e a w → e = .normal)
    (hA : ∀ a w, QA .normal a w → wpOps P ops Q (n :: List.range' (n + 2) (ops.size - (n + 2))) a w)
    (hB : ∀ a w, QB .normal a w → wpOps P ops Q (List.range' n (ops.size - n)) a w) :
    ∀ (fuel : Nat) (l : List Nat) (listedA listedB listed : Array Bool) (a : Act) (w : World), fuel + l.length = n → Begun ops l → (∀ j, j ∈ l → j < n) →
      listedA.size = n + 1 → (∀ j, j < n → listedA[j]? = some (l.contains j)) → listedA[n]? = some false → listedB.size = n → (∀ j, j < n → listedB[j]? = some (l.contains j)) →
      listed.size = ops.size → (∀ j, j < ops.size → listed[j]? = some (l.contains j)) →
      wpAny P .any (opsF ops n) QA (fuel + 1) listedA a w → wpAny P .any (ops.extract 0 n) QB fuel listedB a w → wpAny P .any ops Q (fuel + (ops.size - n)) listed a w := by
  obtain ⟨hn, hp0, ⟨of, hof, hofg⟩, hlt, hg, hm⟩ := floatR_spec hf
  have hszF := opsF_size (ops := ops) hn
  have hszB : (ops.extract 0 n).size = n := by simp; omega
  have hltF : ∀ i, i < (opsF ops n).size → ∀ j, j ∈ predsOf (opsF ops n) i → j < i := by
    intro i hi j hj
    rw [hszF] at hi
    rcases Nat.lt_or_ge i n with h | h
    · rw [predsF_lt hn h] at hj; exact hlt i (by omega) j hj
    · have : i = n := by omega
      subst this; rw [predsF_n hn hp0] at hj; cases hj
  have hltB : ∀ i, i < (ops.extract 0 n).size → ∀ j, j ∈ predsOf (ops.extract 0 n) i → j < i := by
    intro i hi j hj
    rw [hszB] at hi
    rw [preds_extract (by omega) hi] at hj
    exact hlt i (by omega) j hj
  intro fuel
  -- the floating operation comes up
  have floats : ∀ (fuel : Nat) (l : List Nat) (listedA listed : Array Bool) (a : Act) (w : World), fuel + l.length = n → Begun ops l → (∀ j, j ∈ l → j < n) →
      listedA.size = n + 1 → (∀ j, j < n → listedA[j]? = some (l.contains j)) → listedA[n]? = some false → listed.size = ops.size → (∀ j, j < ops.size → listed[j]? = some (l.contains j)) →
      wpAny P .any (opsF ops n) QA (fuel + 1) listedA a w → wpOp P ops Q (n + 1) (wpAny P .any ops Q (fuel + (ops.size - (n + 1))) (listed.setIfInBounds (n + 1) true)) a w := by
    intro fuel l listedA listed a w hlen hb hln hsA hlA hlAn hsz hl h
    have hfl : n + 1 ∉ l := fun hh => by have := hln _ hh; omega
    have hnl : n ∉ l := fun hh => by have := hln _ hh; omega
    have hlA' : ∀ j, j < (opsF ops n).size → listedA[j]? = some (l.contains j) := by
      intro j hj
      rw [hszF] at hj
      rcases Nat.lt_or_ge j n with hjn | hjn
      · exact hlA j hjn
      · have : j = n := by omega
        subst this; rw [hlAn]; simp [hnl]
    have hr : n ∈ Region.ready .any (opsF ops n) listedA := (ready_iff (by rw [hsA, hszF]) hlA' hltF).2 ⟨by omega, hnl, fun j hj => by rw [predsF_n hn hp0] at hj; cases hj⟩
    obtain ⟨s1, s2⟩ := listed_step hsz hl hn
    refine wpOp_move (opsF_n hn) (fun o g b ho hgo => by rw [hof] at ho; cases ho; rw [hofg] at hgo; cases hgo) hQA
      (fun a' w' h' => wpAny_floatA hf hQA hA fuel (l ++ [n + 1]) _ _ a' w' (by simp; omega) (.snoc hb hfl hn (fun j hj => by rw [hp0] at hj; cases hj)) (fun j hj => ?_) (by simp) (by simpa using hsA) (fun j hj => ?_) ?_ s1 s2 h') (h.2 n hr)
    · rcases List.mem_append.1 hj with hj | hj
      · exact .inl (hln j hj)
      · exact .inr (List.mem_singleton.1 hj)
    · rw [Array.getElem?_setIfInBounds_ne (by omega), hlA j hj]
      have : j ≠ n + 1 := by omega
      simp [this]
    · simp [hsA]
  induction fuel with
  | zero =>
    intro l listedA listedB listed a w hlen hb hln hsA hlA hlAn hsB hlB hsz hl h hB'
    have hfull : ∀ i, i < n → i ∈ l := full_of_len hb.nodup.1 hln (by omega)
    have hnl : n ∉ l := fun hh => by have := hln _ hh; omega
    rw [Nat.zero_add, show ops.size - n = (ops.size - (n + 1)) + 1 by omega]
    refine ⟨fun hnil => ?_, fun i hi => ?_⟩
    · have : n ∈ Region.ready .any ops listed := (ready_iff hsz hl hlt).2 ⟨by omega, hnl, fun j hj => hfull j (hlt n (by omega) j hj)⟩
      rw [hnil] at this; cases this
    · obtain ⟨h1, h2, h3⟩ := (ready_iff hsz hl hlt).1 hi
      have him : i = n ∨ i = n + 1 := by
        rcases Nat.lt_trichotomy i n with h4 | h4 | h4
        · exact absurd (hfull i h4) h2
        · exact .inl h4
        · by_cases h5 : i = n + 1
          · exact .inr h5
          · exact absurd (masks_table i (by rw [masks_length]; simpa using h1) l hb h3 n (hm i h1 (by omega) h5 n h4)) hnl
      rcases him with rfl | rfl
      · -- the call; then the floating one
        have hw := hB a w hB'.2
        rw [show ops.size - i = (ops.size - (i + 1)) + 1 by omega, List.range'_succ, wpOps_cons] at hw
        obtain ⟨s1, s2⟩ := listed_step hsz hl h1
        have hb1 : Begun ops (l ++ [i]) := .snoc hb h2 h1 h3
        have hmem1 : ∀ j, j ∈ l ++ [i] ↔ j < i + 1 := fun j => by
          rw [List.mem_append, List.mem_singleton]
          exact ⟨fun h => by rcases h with h | h; · have := hln j h; omega
                             · omega, fun h => by rcases Nat.lt_or_ge j i with h' | h'; · exact .inl (hfull j h')
                                                  · exact .inr (by omega)⟩
        refine wpOp_mono (fun a' w' h' => ?_) hw
        rw [show ops.size - (i + 1) = (ops.size - (i + 2)) + 1 by omega] at h' ⊢
        rw [List.range'_succ, wpOps_cons] at h'
        refine ⟨fun hnil => ?_, fun q hq => ?_⟩
        · have : i + 1 ∈ Region.ready .any ops (listed.setIfInBounds i true) := (ready_iff s1 s2 hlt).2 ⟨hn, fun hh => by have := (hmem1 _).1 hh; omega, fun j hj => by rw [hp0] at hj; cases hj⟩
          rw [hnil] at this; cases this
        · obtain ⟨q1, q2, q3⟩ := (ready_iff s1 s2 hlt).1 hq
          have hqi : q = i + 1 := by
            have hge : ¬ q < i + 1 := fun hh => q2 ((hmem1 q).2 hh)
            refine Classical.byContradiction fun hne => ?_
            have := masks_table q (by rw [masks_length]; simpa using q1) _ hb1 q3 (i + 1) (hm q q1 (by omega) hne (i + 1) (by omega))
            have := (hmem1 _).1 this
            omega
          subst hqi
          obtain ⟨u1, u2⟩ := listed_step s1 s2 q1
          refine wpOp_mono (fun a'' w'' h'' => wpAny_tail hlt (n := i + 2) (fun q hq hge j hj => hm q hq (by omega) (by omega) j hj) (ops.size - (i + 2)) (i + 2) (l ++ [i] ++ [i + 1]) _ a'' w'' (by omega) (Nat.le_refl _)
            (.snoc hb1 q2 q1 q3) (fun j => ?_) u1 u2 h'') h'
          rw [List.mem_append, hmem1, List.mem_singleton]; omega
      · have := floats 0 l listedA listed a w (by omega) hb hln hsA hlA hlAn hsz hl h
        rwa [Nat.zero_add] at this
  | succ fuel ih =>
    intro l listedA listedB listed a w hlen hb hln hsA hlA hlAn hsB hlB hsz hl h hB'
    have hnl : n ∉ l := fun hh => by have := hln _ hh; omega
    have hnot : ∃ i, i < n ∧ i ∉ l := by
      refine Classical.byContradiction fun hne => ?_
      have hall : ∀ i, i < n → i ∈ l := fun i hi => Classical.byContradiction fun h2 => hne ⟨i, hi, h2⟩
      have := len_ge n l hall
      omega
    rw [Nat.add_right_comm]
    refine ⟨fun hnil => ?_, fun i hi => ?_⟩
    · exfalso
      obtain ⟨i0, hi0, hil0⟩ := hnot
      have key : ∀ i, i < n → i ∈ l := by
        intro i
        induction i using Nat.strongRecOn with
        | _ i ihi =>
          intro hin
          refine Classical.byContradiction fun hil => ?_
          have : i ∈ Region.ready .any ops listed := (ready_iff hsz hl hlt).2 ⟨by omega, hil, fun j hj => ihi j (hlt i (by omega) j hj) (by have := hlt i (by omega) j hj; omega)⟩
          rw [hnil] at this; cases this
      exact hil0 (key i0 hi0)
    · obtain ⟨h1, h2, h3⟩ := (ready_iff hsz hl hlt).1 hi
      by_cases h5 : i = n + 1
      · subst h5
        have := floats (fuel + 1) l listedA listed a w (by omega) hb hln hsA hlA hlAn hsz hl h
        rwa [show fuel + 1 + (ops.size - (n + 1)) = fuel + (ops.size - n) by omega] at this
      · have hin : i < n := by
          refine Classical.byContradiction fun hge => ?_
          obtain ⟨i0, hi0, hil0⟩ := hnot
          exact hil0 (masks_table i (by rw [masks_length]; simpa using h1) l hb h3 i0 (hm i h1 (by omega) h5 i0 (by omega)))
        have hlA' : ∀ j, j < (opsF ops n).size → listedA[j]? = some (l.contains j) := by
          intro j hj
          rw [hszF] at hj
          rcases Nat.lt_or_ge j n with hjn | hjn
          · exact hlA j hjn
          · have : j = n := by omega
            subst this; rw [hlAn]; simp [hnl]
        have hrA : i ∈ Region.ready .any (opsF ops n) listedA := (ready_iff (by rw [hsA, hszF]) hlA' hltF).2 ⟨by omega, h2, fun j hj => by rw [predsF_lt hn hin] at hj; exact h3 j hj⟩
        have hrB : i ∈ Region.ready .any (ops.extract 0 n) listedB :=
          (ready_iff (by rw [hsB, hszB]) (fun j hj => hlB j (by omega)) hltB).2 ⟨by omega, h2, fun j hj => by rw [preds_extract (by omega) hin] at hj; exact h3 j hj⟩
        -- both go on
        have kA := h.2 i hrA
        have kB := hB'.2 i hrB
        obtain ⟨s1, s2⟩ := listed_step hsz hl h1
        have kA' : wpOp P ops Q i (fun a' w' => wpAny P .any (opsF ops n) QA (fuel + 1) (listedA.setIfInBounds i true) a' w') a w :=
          wpOp_move (opsF_lt hn hin) (fun o g b ho hgo => opsF_lt hn (by have := hg i o g b ho hgo; omega)) hQA (fun _ _ h => h) kA
        have kB' : wpOp P ops Q i (fun a' w' => wpAny P .any (ops.extract 0 n) QB fuel (listedB.setIfInBounds i true) a' w') a w :=
          wpOp_move (extract_get (by omega) hin) (fun o g b ho hgo => extract_get (by omega) (by have := hg i o g b ho hgo; omega)) hQB (fun _ _ h => h) kB
        refine wpOp_mono (fun a' w' h' => ?_) (wpOp_and (floatR_val hf i hin) kA' kB')
        refine ih (l ++ [i]) _ _ _ a' w' (by simp; omega) (.snoc hb h2 h1 h3) (fun j hj => ?_) (by simpa using hsA) (fun j hj => ?_) ?_ (by simpa using hsB) (fun j hj => ?_) s1 s2 h'.1 h'.2
        · rcases List.mem_append.1 hj with hj | hj
          · exact hln j hj
          · rw [List.mem_singleton.1 hj]; exact hin
        · by_cases hji : j = i
          · subst hji
            rw [Array.getElem?_setIfInBounds_self_of_lt (by omega)]; simp
          · rw [Array.getElem?_setIfInBounds_ne (Ne.symm hji), hlA j hj]; simp [hji]
        · rw [Array.getElem?_setIfInBounds_ne (by omega)]; exact hlAn
        · by_cases hji : j = i
          · subst hji
            rw [Array.getElem?_setIfInBounds_self_of_lt (by omega)]; simp
          · rw [Array.getElem?_setIfInBounds_ne (Ne.symm hji), hlB j hj]; simp [hji]
end
end
end Sx
end
section
namespace Sx
open Go RowKit

noncomputable def ordT (P : Program) (cs : Ctrs) (ih : Conf → Tree) (c : Conf) (ops : Array Oper) (ri : Option (Array Oper × List Nat)) (k : List Item) (depth : Nat) (hs : Nat → Nat → D) : Nat → List (Nat × Bool) → Tree
 | 0, _ => .stuck
 | n + 1, dec => match canonR P cs ops depth dec hs (List.range ops.size) (c.top.tmps, c.mem) with
  | .done s es => match checkR ops depth (masks ops.toList []) es s.2 with
   | true => needs (es.flatMap (·.ps)) (ih { c with top := { c.top with ri := ri, todo := k, tmps := s.1 }, mem := s.2 })
   | false => .stuck
  | .ask t b => .br b (ordT P cs ih c ops ri k depth hs n ((t, true) :: dec)) (ordT P cs ih c ops ri k depth hs n ((t, false) :: dec))
  | .bad => .stuck
def depthFor (ops : Array Oper) (c : Conf) : Nat → Nat → Option Nat
 | 0, _ => none
 | n + 1, d => match checkS ops d (masks ops.toList []) (c.top.tmps, c.mem) c.rest with
  | true => some d
  | false => depthFor ops c n (d + 10)
def depthK {β : Type _} : List SFrm → Nat → (Nat → β) → β
 | [], n, k => k n
 | _ :: r, n, k => depthK r (n + 1) k
theorem depthK_eq {β : Type _} : ∀ (r : List SFrm) (n : Nat) (k : Nat → β), depthK r n k = k (n + r.length)
 | [], n, k => rfl
 | _ :: r, n, k => by simp only [depthK, depthK_eq r, List.length_cons]; congr 1; omega
def isElt (ops : Array Oper) (x : Operand) : Bool :=
 match x with
 | .tmp t => ops.toList.any fun o => match o.dst with
  | some d => d == t && (match o.op with
   | .indexAddr .. => true
   | _ => false)
  | none => false
 | _ => false
def bareCall (cs : Ctrs) (ops : Array Oper) : List Oper → Nat → Option Nat
 | [], _ => none
 | o :: r, n => match o.op with
  | .call c => match c.callee with
   | .value (.func f) => match cs.find f with
    | none => some n
    | some _ => bareCall cs ops r (n + 1)
   | _ => bareCall cs ops r (n + 1)
  | .store _ a _ => match isElt ops a with
   | true => some n
   | false => bareCall cs ops r (n + 1)
  | _ => bareCall cs ops r (n + 1)

noncomputable def drawC (P : Program) (cs : Ctrs) (ih : Conf → Tree) (c : Conf) (ops : Array Oper) (k : List Item) : Tree :=
 match P.follows .mixedOrders && Region.noSelect ops with
 | true => match bareCall cs ops ops.toList 0 with
  | none => depthK c.rest 1 fun d => match depthFor ops c 40 d with
   | some depth => .all fun hs => ordT P cs ih c ops none k depth hs 12 []
   | none => .stuck
  | some n => match forcedR ops n with
   | true => natF n fun n => depthK c.rest 1 fun d => match depthFor (ops.extract 0 n) c 40 d with
    | some depth => .all fun hs => ordT P cs ih c (ops.extract 0 n) (some (ops, List.range' n (ops.size - n))) k depth hs 12 []
    | none => .stuck
   | false => match floatR ops n with
    | true => natF n fun n => depthK c.rest 1 fun d => match depthFor (ops.extract 0 n) c 40 d with
     | some depth => match depthFor (opsF ops n) c 40 d with
      | some depth' => .all fun h => .br (D.isNil (h 0 0)) (.all fun hs => ordT P cs ih c (ops.extract 0 n) (some (ops, List.range' n (ops.size - n))) k depth hs 12 [])
        (.all fun hs => ordT P cs ih c (opsF ops n) (some (ops, n :: List.range' (n + 2) (ops.size - (n + 2)))) k depth' hs 12 [])
      | none => .stuck
     | none => .stuck
    | false => .stuck
 | false => .stuck

section
variable {P : Program} {C : Ctx} {cs : Ctrs}

theorem depthFor_spec {ops : Array Oper} {c : Conf} : ∀ {n d depth : Nat}, depthFor ops c n d = some depth → checkS ops depth (masks ops.toList []) (c.top.tmps, c.mem) c.rest = true
 | 0, _, _, h => by cases h
 | n + 1, d, depth, h => by
  simp only [depthFor] at h
  split at h
  ·rename_i hc; cases h; exact hc
  ·exact depthFor_spec h

theorem ordT_sound {R : Value → World → Prop} {ih : Conf → Tree} (hih : ∀ c, (ih c).holds P C R → Runs P C c R) {c : Conf} {ops : Array Oper} {ri : Option (Array Oper × List Nat)} {k : List Item} {depth : Nat} {hs : Nat → Nat → D} :
  ∀ {n : Nat} {dec : List (Nat × Bool)}, (ordT P cs ih c ops ri k depth hs n dec).holds P C R →
   Chk P cs ops depth (c.top.tmps, c.mem) hs fun s => Runs P C ⟨⟨c.top.fn, ri, c.top.await, k, s.1⟩, c.rest, s.2⟩ R
 | 0, _, h => h.elim
 | n + 1, dec, h => by
  simp only [ordT] at h
  split at h
  ·rename_i s es hc
   split at h
   ·rename_i hk
    obtain ⟨h1, h2⟩ := needs_holds h
    exact chk_of hc hk (fun e he p hp => h1 p (List.mem_flatMap.2 ⟨e, he, hp⟩)) (hih _ h2)
   ·exact h.elim
  ·rename_i t b hc
   cases b with
   | true => exact ordT_sound hih (h.1 rfl)
   | false => exact ordT_sound hih (h.2 rfl)
  ·exact h.elim

theorem drawC_sound (hcs : cs.Ok P) {R : Value → World → Prop} {ih : Conf → Tree} (hih : ∀ c, (ih c).holds P C R → Runs P C c R) {f : FuncId} {aw : Option Tmp} {id : Nat} {ops : Array Oper} {k : List Item}
    {tmps : List SV} {rest : List SFrm} {mem : Mem}
    (h : (drawC P cs ih ⟨⟨f, none, aw, .code (.region id ops true) :: k, tmps⟩, rest, mem⟩ ops k).holds P C R) : Runs P C ⟨⟨f, none, aw, .code (.region id ops true) :: k, tmps⟩, rest, mem⟩ R := by
  unfold drawC at h
  split at h
  · rename_i hc
    simp only [Bool.and_eq_true] at hc
    obtain ⟨hm, hsel⟩ := hc
    split at h
    · rw [depthK_eq] at h
      split at h
      · rename_i depth hd
        obtain ⟨c1, c2⟩ := checkS_spec (depthFor_spec hd)
        have hchk : ∀ hs, Chk P cs ops depth (tmps, mem) hs fun s => Runs P C ⟨⟨f, none, aw, k, s.1⟩, rest, s.2⟩ R := fun hs => ordT_sound hih (h hs)
        intro E H w g ok
        rw [stkRun_eq]
        simp only [SFrm.den, CFrm.run]
        refine Go1.code (wp_region_any hm ?_)
        have gd := g.drew
        exact ord_sound (ri := none) (aw := aw) hcs hchk c1 c2 ops.size [] (Array.replicate ops.size false) [] (fun _ _ => default) (fun _ => ⟨[], .undef, [], none, none, none, none⟩) E H w.drew (by simp) .nil (by simp) (fun j hj => by simp [hj]) trivial
          (by simp) gd ok.1 ok.2 rfl
      · exact h.elim
    · rename_i n hb
      split at h
      · rename_i hf
        rw [natF_eq, depthK_eq] at h
        split at h
        · rename_i depth hd
          obtain ⟨c1, c2⟩ := checkS_spec (depthFor_spec hd)
          have hn := (forcedR_spec hf).1
          have hsz : (ops.extract 0 n).size = n := by simp; omega
          have hchk : ∀ hs, Chk P cs (ops.extract 0 n) depth (tmps, mem) hs fun s => Runs P C ⟨⟨f, some (ops, List.range' n (ops.size - n)), aw, k, s.1⟩, rest, s.2⟩ R := fun hs => ordT_sound hih (h hs)
          intro E H w g ok
          rw [stkRun_eq]
          simp only [SFrm.den, CFrm.run]
          refine Go1.code (wp_region_any hm ?_)
          have gd := g.drew
          have key := ord_sound (E0 := E) (ri := some (ops, List.range' n (ops.size - n))) (aw := aw) hcs hchk c1 c2 (ops.extract 0 n).size [] (Array.replicate n false) [] (fun _ _ => default) (fun _ => ⟨[], .undef, [], none, none, none, none⟩) E H w.drew (by simp) .nil (by simp; omega)
            (fun j hj => by have : j < n := by omega
                            simp [this]) trivial (by simp) gd ok.1 ok.2 rfl
          rw [hsz] at key
          have := wpAny_head (Q := Qk P f k (restOf P (rest.map (SFrm.den E)) R)) hf (Q' := Qi P f (some (ops, List.range' n (ops.size - n))) aw k (restOf P (rest.map (SFrm.den E)) R)) (fun e a w h => h.1) (fun a w h => h.2)
            n [] (Array.replicate n false) (Array.replicate ops.size false) _ w.drew (by simp) .nil (by simp) (by simp) (fun j hj => by simp [hj]) (by simp) (fun j hj => by simp [hj]) key
          rw [show n + (ops.size - n) = ops.size by omega] at this
          exact this
        · exact h.elim
      · split at h
        · rename_i hf
          rw [natF_eq, depthK_eq] at h
          split at h
          · rename_i depth hd
            split at h
            · rename_i depth' hd'
              obtain ⟨c1, c2⟩ := checkS_spec (depthFor_spec hd)
              obtain ⟨c1', c2'⟩ := checkS_spec (depthFor_spec hd')
              have hn := (floatR_spec hf).1
              have hsz : (ops.extract 0 n).size = n := by simp; omega
              have hszF := opsF_size (ops := ops) hn
              -- what is not looked at in one of the two arms may be changed
              have hchkB : ∀ hs, Chk P cs (ops.extract 0 n) depth (tmps, mem) hs fun s => Runs P C ⟨⟨f, some (ops, List.range' n (ops.size - n)), aw, k, s.1⟩, rest, s.2⟩ R := fun hs =>
                ordT_sound hih ((h fun _ _ => .slc none 0 []).1 rfl hs)
              have hchkA : ∀ hs, Chk P cs (opsF ops n) depth' (tmps, mem) hs fun s => Runs P C ⟨⟨f, some (ops, n :: List.range' (n + 2) (ops.size - (n + 2))), aw, k, s.1⟩, rest, s.2⟩ R := fun hs =>
                ordT_sound hih ((h fun _ _ => .slc (some (⟨0, 0, none⟩, 0)) 0 []).2 rfl hs)
              intro E H w g ok
              rw [stkRun_eq]
              simp only [SFrm.den, CFrm.run]
              refine Go1.code (wp_region_any hm ?_)
              have gd := g.drew
              have keyB := ord_sound (E0 := E) (ri := some (ops, List.range' n (ops.size - n))) (aw := aw) hcs hchkB c1 c2 (ops.extract 0 n).size [] (Array.replicate n false) [] (fun _ _ => default) (fun _ => ⟨[], .undef, [], none, none, none, none⟩) E H w.drew (by simp) .nil (by simp; omega)
                (fun j hj => by have : j < n := by omega
                                simp [this]) trivial (by simp) gd ok.1 ok.2 rfl
              have keyA := ord_sound (E0 := E) (ri := some (ops, n :: List.range' (n + 2) (ops.size - (n + 2)))) (aw := aw) hcs hchkA c1' c2' (opsF ops n).size [] (Array.replicate (n + 1) false) [] (fun _ _ => default) (fun _ => ⟨[], .undef, [], none, none, none, none⟩) E H w.drew (by simp) .nil (by rw [hszF]; simp)
                (fun j hj => by have : j < n + 1 := by omega
                                simp [this]) trivial (by simp) gd ok.1 ok.2 rfl
              rw [hsz] at keyB
              rw [hszF] at keyA
              have := wpAny_float (Q := Qk P f k (restOf P (rest.map (SFrm.den E)) R)) hf
                (QA := Qi P f (some (ops, n :: List.range' (n + 2) (ops.size - (n + 2)))) aw k (restOf P (rest.map (SFrm.den E)) R)) (QB := Qi P f (some (ops, List.range' n (ops.size - n))) aw k (restOf P (rest.map (SFrm.den E)) R))
                (fun e a w h => h.1) (fun e a w h => h.1) (fun a w h => h.2) (fun a w h => h.2)
                n [] (Array.replicate (n + 1) false) (Array.replicate n false) (Array.replicate ops.size false) _ w.drew (by simp) .nil (by simp) (by simp) (fun j hj => by
                  have : j < n + 1 := by omega
                  simp [this]) (by simp) (by simp) (fun j hj => by simp [hj]) (by simp) (fun j hj => by simp [hj]) keyA keyB
              rw [show n + (ops.size - n) = ops.size by omega] at this
              exact this
            · exact h.elim
          · exact h.elim
        · exact h.elim
  · exact h.elim
end
end Sx
end
section
namespace Sx
open Go RowKit

mutual
def SV.ren (ρ : Nat → Nat) : SV → SV
 | .vec k => .vec (ρ k)
 | .ptr k o => .ptr (ρ k) o
 | .velt k s i j => .velt (ρ k) s i j
 | .mapp k => .mapp (ρ k)
 | .agg l => .agg (SV.renL ρ l)
 | .tup l => .tup (SV.renL ρ l)
 | .fn f a c => .fn f (SV.renL ρ a) (SV.renL ρ c)
 | .int k n => .int k n
 | .bool b => .bool b
 | .lb b => .lb b
 | .str s => .str s
 | .nils => .nils
 | .dat d => .dat d
 | .elt d i j => .elt d i j
 | .nilp => .nilp
 | .nilf => .nilf
 | .undef => .undef
 | .junk i => .junk i
 | .raw v => .raw v
def SV.renL (ρ : Nat → Nat) : List SV → List SV
 | [] => []
 | x :: r => SV.ren ρ x :: SV.renL ρ r
end

def OBlk.ren (ρ : Nat → Nat) : OBlk → OBlk
 | .cells t cs => .cells t (SV.renL ρ cs)
 | .map es => .map (es.map fun e => (e.1.ren ρ, e.2.ren ρ))
 | .arr e d => .arr e d
 | .pub d => .pub d

def Ren (ρ : Nat → Nat) (E E' : Env) (k : Nat) : Prop := E'.b (ρ k) = E.b k ∧ E'.v (ρ k) = E.v k

mutual
theorem SV.den_ren {ρ : Nat → Nat} {E E' : Env} (hj : E'.j = E.j) : ∀ x : SV, (∀ k, k ∈ x.keys → Ren ρ E E' k) → (x.ren ρ).den E' = x.den E
 | .vec k, h => by simp only [SV.ren, SV.den, (h k (by simp [SV.keys])).2]
 | .ptr k _, h => by simp only [SV.ren, SV.den, (h k (by simp [SV.keys])).1]
 | .velt k _ _ _, h => by simp only [SV.ren, SV.den, (h k (by simp [SV.keys])).1]
 | .mapp k, h => by simp only [SV.ren, SV.den, (h k (by simp [SV.keys])).1]
 | .agg l, h => by simp only [SV.ren, SV.den, SV.denL_ren hj l (by simpa [SV.keys] using h)]
 | .tup l, h => by simp only [SV.ren, SV.den, SV.denL_ren hj l (by simpa [SV.keys] using h)]
 | .fn _ a c, h => by
  simp only [SV.keys, List.mem_append] at h
  simp only [SV.ren, SV.den, SV.denL_ren hj a (fun k hk => h k (.inl hk)), SV.denL_ren hj c (fun k hk => h k (.inr hk))]
 | .int .., _ => by simp [SV.ren, SV.den]
 | .bool _, _ => by simp [SV.ren, SV.den]
 | .lb _, _ => by simp [SV.ren, SV.den]
 | .str _, _ => by simp [SV.ren, SV.den]
 | .nils, _ => by simp [SV.ren, SV.den]
 | .dat _, _ => by simp [SV.ren, SV.den]
 | .elt .., _ => by simp [SV.ren, SV.den]
 | .nilp, _ => by simp [SV.ren, SV.den]
 | .nilf, _ => by simp [SV.ren, SV.den]
 | .undef, _ => by simp [SV.ren, SV.den]
 | .junk _, _ => by simp [SV.ren, SV.den, hj]
 | .raw _, _ => by simp [SV.ren, SV.den]
theorem SV.denL_ren {ρ : Nat → Nat} {E E' : Env} (hj : E'.j = E.j) : ∀ l : List SV, (∀ k, k ∈ SV.keysL l → Ren ρ E E' k) → SV.denL E' (SV.renL ρ l) = SV.denL E l
 | [], _ => by simp [SV.renL, SV.denL]
 | x :: r, h => by
  simp only [SV.keysL, List.mem_append] at h
  simp only [SV.renL, SV.denL, SV.den_ren hj x (fun k hk => h k (.inl hk)), SV.denL_ren hj r (fun k hk => h k (.inr hk))]
end

mutual
theorem SV.ok_ren {ρ : Nat → Nat} {H : HV} : ∀ x : SV, x.Ok H → (x.ren ρ).Ok H
 | .dat _, h => by simpa only [SV.ren, SV.Ok] using h
 | .elt .., h => by simpa only [SV.ren, SV.Ok] using h
 | .agg l, h => by simp only [SV.ren, SV.Ok] at h ⊢; exact SV.okL_ren l h
 | .tup l, h => by simp only [SV.ren, SV.Ok] at h ⊢; exact SV.okL_ren l h
 | .fn _ a c, h => by simp only [SV.ren, SV.Ok] at h ⊢; exact ⟨SV.okL_ren a h.1, SV.okL_ren c h.2⟩
 | .int .., _ => by simp [SV.ren, SV.Ok]
 | .bool _, _ => by simp [SV.ren, SV.Ok]
 | .lb _, _ => by simp [SV.ren, SV.Ok]
 | .str _, _ => by simp [SV.ren, SV.Ok]
 | .nils, _ => by simp [SV.ren, SV.Ok]
 | .vec _, _ => by simp [SV.ren, SV.Ok]
 | .ptr .., _ => by simp [SV.ren, SV.Ok]
 | .velt .., _ => by simp [SV.ren, SV.Ok]
 | .nilp, _ => by simp [SV.ren, SV.Ok]
 | .nilf, _ => by simp [SV.ren, SV.Ok]
 | .mapp _, _ => by simp [SV.ren, SV.Ok]
 | .undef, _ => by simp [SV.ren, SV.Ok]
 | .junk _, _ => by simp [SV.ren, SV.Ok]
 | .raw _, _ => by simp [SV.ren, SV.Ok]
theorem SV.okL_ren {ρ : Nat → Nat} {H : HV} : ∀ l : List SV, SV.OkL H l → SV.OkL H (SV.renL ρ l)
 | [], _ => by simp [SV.renL, SV.OkL]
 | x :: r, h => by simp only [SV.renL, SV.OkL] at h ⊢; exact ⟨SV.ok_ren x h.1, SV.okL_ren r h.2⟩
end

theorem OOk.ren {C : Ctx} {ρ : Nat → Nat} {E E' : Env} {H : HV} {w : World} {k : Nat} {o : OBlk} (hj : E'.j = E.j) (h : OOk C E H w k o) (hk : Ren ρ E E' k) (ho : ∀ j, j ∈ o.keys → Ren ρ E E' j)
  (hinj : ∀ es, o = .map es → KeysOk es → KeysOk (es.map fun e => (e.1.ren ρ, e.2.ren ρ))) : OOk C E' H w (ρ k) (o.ren ρ) := by
 obtain ⟨k1, k2⟩ := hk
 cases o with
 | cells t cs =>
  obtain ⟨a, b, c, d⟩ := h
  exact ⟨by rw [k1]; exact a, by rw [k1, SV.denL_ren hj cs ho]; exact b, by rw [k1]; exact c, SV.okL_ren cs d⟩
 | pub d => exact ⟨by rw [k2]; exact h.1, h.2⟩
 | map es =>
  obtain ⟨a, b, ⟨en, cl, hh, hm⟩, c, d⟩ := h
  refine ⟨by rw [k1]; exact a, by rw [k1]; exact b, ⟨en, cl, by rw [k1]; exact hh, hm.trans (List.Perm.of_eq ?_)⟩, ?_, hinj es rfl d⟩
  ·rw [List.map_map]
   apply List.map_congr_left
   intro e he
   simp only [OBlk.keys, List.mem_flatMap, List.mem_append] at ho
   simp only [Function.comp, SV.den_ren hj e.1 (fun j hj => ho j ⟨e, he, .inl hj⟩), SV.den_ren hj e.2 (fun j hj => ho j ⟨e, he, .inr hj⟩)]
  ·intro e he
   obtain ⟨x, hx, rfl⟩ := List.mem_map.1 he
   exact ⟨SV.ok_ren _ (c x hx).1, SV.ok_ren _ (c x hx).2⟩
 | arr e d =>
  obtain ⟨hd, sz, rows, rfl, hv, how, hl, hk2, hx⟩ := h
  exact ⟨hd, sz, rows, rfl, by rw [k2]; exact hv, how, hl, hk2, fun a c hc => by
   obtain ⟨p, q⟩ := hx a c hc
   exact ⟨by rw [k1]; exact p, by rw [k1]; exact q⟩⟩

theorem keysOk_ren {ρ : Nat → Nat} {es : List (SV × SV)} (h : KeysOk es) : KeysOk (es.map fun e => (e.1.ren ρ, e.2.ren ρ)) := by
 refine ⟨fun e he => ?_, ?_⟩
 ·obtain ⟨x, hx, rfl⟩ := List.mem_map.1 he
  obtain ⟨k, n, hk⟩ := h.1 x hx
  exact ⟨k, n, by simp [hk, SV.ren]⟩
 ·rw [List.pairwise_map]
  refine h.2.imp_of_mem ?_
  intro a b ha hb hne
  obtain ⟨k, n, hk⟩ := h.1 a ha
  obtain ⟨k', n', hk'⟩ := h.1 b hb
  rw [hk, hk'] at hne
  simpa [hk, hk', SV.ren] using hne
def meet : List Nat → List Nat → List Nat
 | acc, [] => acc
 | acc, k :: r => match acc.contains k with
  | true => meet acc r
  | false => meet (acc ++ [k]) r

def idxOf (k : Nat) : Nat → List Nat → Nat
 | n, [] => n
 | n, x :: r => match Nat.beq x k with
  | true => n
  | false => idxOf k (n + 1) r

theorem meet_mem {k : Nat} : ∀ {l acc : List Nat}, k ∈ acc ∨ k ∈ l → k ∈ meet acc l
 | [], acc, h => by simpa [meet] using h
 | x :: r, acc, h => by
  simp only [meet]
  split
  ·rename_i hx
   refine meet_mem ?_
   rcases h with h | h
   ·exact .inl h
   ·rcases List.mem_cons.1 h with rfl | h
    ·exact .inl (by simpa using hx)
    ·exact .inr h
  ·refine meet_mem ?_
   rcases h with h | h
   ·exact .inl (List.mem_append_left _ h)
   ·rcases List.mem_cons.1 h with rfl | h
    ·exact .inl (by simp)
    ·exact .inr h

theorem idxOf_spec {k : Nat} : ∀ {l : List Nat} {n : Nat}, k ∈ l → ∃ i, idxOf k n l = n + i ∧ l[i]? = some k
 | [], _, h => by cases h
 | x :: r, n, h => by
  simp only [idxOf]
  cases hx : Nat.beq x k with
  | true => exact ⟨0, by simp, by simp [Nat.eq_of_beq_eq_true hx]⟩
  | false =>
   have hne : x ≠ k := fun e => by subst e; rw [Nat.beq_refl] at hx; cases hx
   rcases List.mem_cons.1 h with h | h
   ·exact absurd h.symm hne
   ·obtain ⟨i, h1, h2⟩ := idxOf_spec (n := n + 1) h
    exact ⟨i + 1, by simp only; omega, by simpa using h2⟩
def walkK (m : Mem) : Nat → Nat → List Nat → List Nat
 | 0, _, acc => acc
 | n + 1, i, acc => match acc[i]? with
  | none => acc
  | some k => walkK m n (i + 1) (meet acc (match m.get k with | some o => o.keys | none => []))

theorem walkK_mem {m : Mem} {k : Nat} : ∀ {n i : Nat} {acc : List Nat}, k ∈ acc → k ∈ walkK m n i acc
 | 0, _, _, h => h
 | n + 1, i, acc, h => by
  simp only [walkK]
  split
  ·exact h
  ·exact walkK_mem (meet_mem (.inl h))

def Conf.allKeys (c : Conf) : List Nat :=
 meet (walkK c.mem (c.mem.length + 4) 0 (meet [] (SV.keysL c.top.tmps ++ (c.rest.flatMap fun f => SV.keysL f.tmps)))) (Mem.named c.mem)

def renWith (ρ : Nat → Nat) (c : Conf) : Conf :=
 ⟨{ c.top with tmps := SV.renL ρ c.top.tmps }, c.rest.map fun f => { f with tmps := SV.renL ρ f.tmps }, c.mem.map fun e => (ρ e.1, e.2.ren ρ)⟩
def insM (x : Nat × OBlk) : Mem → Mem
 | [] => [x]
 | y :: r => match Nat.ble x.1 y.1 with
  | true => x :: y :: r
  | false => y :: insM x r

def sortM : Mem → Mem
 | [] => []
 | x :: r => insM x (sortM r)

theorem insM_perm (x : Nat × OBlk) : ∀ m : Mem, (insM x m).Perm (x :: m)
 | [] => List.Perm.refl _
 | y :: r => by
  simp only [insM]
  split
  ·exact List.Perm.refl _
  ·exact ((insM_perm x r).cons y).trans (List.Perm.swap _ _ _)

theorem sortM_perm : ∀ m : Mem, (sortM m).Perm m
 | [] => List.Perm.refl _
 | x :: r => (insM_perm x _).trans ((sortM_perm r).cons x)

theorem Good.perm {C : Ctx} {m m' : Mem} {E : Env} {H : HV} {w : World} (g : Good C m E H w) (h : m'.Perm m) : Good C m' E H w :=
 ⟨g.below, g.ext, g.fresh, g.cell, fun k o hk => g.own k o (h.subset hk), (h.pairwise_iff (fun {a b} (h : a.1 ≠ b.1) => h.symm)).2 g.keys, fun x y hx hy => g.apart x y (h.subset hx) (h.subset hy)⟩

def sortC (c : Conf) : Conf := { c with mem := sortM c.mem }

theorem sortC_sound {P : Program} {C : Ctx} {R : Value → World → Prop} {c : Conf} (h : Runs P C (sortC c) R) : Runs P C c R :=
 fun E H w g ok => h E H w (g.perm (sortM_perm _)) ok
def renC (c : Conf) : Conf := renWith (fun k => idxOf k 0 c.allKeys) c
noncomputable def headC {β : Type _} (P : Program) (c : Conf) (k : Conf → β) : β := nz (renC (fgt P c)) fun c => nz (sortC c) k

theorem renC_sound {P : Program} {C : Ctx} {R : Value → World → Prop} {c : Conf} (h : Runs P C (renC c) R) : Runs P C c R := by
 intro E H w g ok
 have spec : ∀ k, k ∈ c.allKeys → ∃ i, idxOf k 0 c.allKeys = i ∧ c.allKeys[i]? = some k := fun k hk => by
  obtain ⟨i, h1, h2⟩ := idxOf_spec (n := 0) hk
  exact ⟨i, by omega, h2⟩
 have all : ∀ k, k ∈ SV.keysL c.top.tmps ∨ (∃ f, f ∈ c.rest ∧ k ∈ SV.keysL f.tmps) ∨ k ∈ Mem.named c.mem → k ∈ c.allKeys := fun k hk => by
  rcases hk with hk | ⟨f, hf, hk⟩ | hk
  ·exact meet_mem (.inl (walkK_mem (meet_mem (.inr (List.mem_append_left _ hk)))))
  ·exact meet_mem (.inl (walkK_mem (meet_mem (.inr (List.mem_append_right _ (List.mem_flatMap.2 ⟨f, hf, hk⟩))))))
  ·exact meet_mem (.inr hk)
 let E' : Env := ⟨fun i => E.b (c.allKeys.getD i 0), fun i => E.v (c.allKeys.getD i 0), E.j⟩
 let ρ : Nat → Nat := fun k => idxOf k 0 c.allKeys
 have ren : ∀ k, k ∈ c.allKeys → Ren ρ E E' k := fun k hk => by
  obtain ⟨i, h1, h2⟩ := spec k hk
  simp only [Ren, E', ρ, h1, List.getD_eq_getElem?_getD, h2, Option.getD_some, and_self]
 have inj : ∀ k j, k ∈ c.allKeys → j ∈ c.allKeys → ρ k = ρ j → k = j := fun k j hk hj e => by
  obtain ⟨i, h1, h2⟩ := spec k hk
  obtain ⟨i', h1', h2'⟩ := spec j hj
  simp only [ρ, h1, h1'] at e
  subst e
  rw [h2] at h2'
  exact Option.some.inj h2'
 have named : ∀ k o, (k, o) ∈ c.mem → k ∈ c.allKeys ∧ ∀ j, j ∈ o.keys → j ∈ c.allKeys := fun k o hm => by
  refine ⟨all k (.inr (.inr ?_)), fun j hj => all j (.inr (.inr ?_))⟩
  ·simp only [Mem.named, List.mem_flatMap]; exact ⟨_, hm, List.mem_cons_self⟩
  ·simp only [Mem.named, List.mem_flatMap]; exact ⟨_, hm, List.mem_cons_of_mem _ hj⟩
 have gd : Good C (c.mem.map fun e => (ρ e.1, e.2.ren ρ)) E' H w := by
  refine ⟨g.below, g.ext, g.fresh, g.cell, fun k o hko => ?_, ?_, fun x y hx hy hne hlx hly => ?_⟩
  ·obtain ⟨e, he, h1⟩ := List.mem_map.1 hko
   simp only [Prod.mk.injEq] at h1
   obtain ⟨rfl, rfl⟩ := h1
   obtain ⟨n1, n2⟩ := named e.1 e.2 he
   exact (g.own e.1 e.2 he).ren (E' := E') (show E'.j = E.j from rfl) (ren _ n1) (fun j hj => ren j (n2 j hj)) (fun es _ hk => keysOk_ren hk)
  ·rw [List.pairwise_map]
   refine g.keys.imp_of_mem ?_
   intro a b ha hb hne e
   exact hne (inj _ _ (named a.1 a.2 ha).1 (named b.1 b.2 hb).1 e)
  ·obtain ⟨a, ha, h1⟩ := List.mem_map.1 hx
   obtain ⟨b, hb, h2⟩ := List.mem_map.1 hy
   subst h1; subst h2
   simp only at hne hlx hly ⊢
   rw [(ren a.1 (named a.1 a.2 ha).1).1, (ren b.1 (named b.1 b.2 hb).1).1]
   have lies : ∀ o : OBlk, (o.ren ρ).Lies → o.Lies := fun o h => by cases o <;> exact h
   exact g.apart a b ha hb (fun e => hne (by rw [e])) (lies _ hlx) (lies _ hly)
 have hr := h E' H w gd ⟨SV.okL_ren _ ok.1, fun f hf => by
  obtain ⟨f', hf', rfl⟩ := List.mem_map.1 hf
  exact SV.okL_ren _ (ok.2 f' hf')⟩
 have e1 : (renC c).top.den E' = c.top.den E := by
  simp only [renC, renWith, SFrm.den]
  rw [SV.denL_ren (E := E) (E' := E') rfl _ fun k hk => ren k (all k (.inl hk))]
 have e2 : (renC c).rest.map (SFrm.den E') = c.rest.map (SFrm.den E) := by
  simp only [renC, renWith, List.map_map]
  apply List.map_congr_left
  intro f hf
  simp only [Function.comp, SFrm.den]
  rw [SV.denL_ren (E := E) (E' := E') rfl _ fun k hk => ren k (all k (.inr (.inl ⟨f, hf, hk⟩)))]
 rw [e1, e2] at hr
 exact hr

theorem headC_sound {P : Program} {C : Ctx} {R : Value → World → Prop} {c : Conf} (h : (headC P c Tree.leaf).holds P C R) : Runs P C c R := by
 simp only [headC, nz_eq] at h
 exact fgt_sound (renC_sound (sortC_sound h))

/-! An empty slice is a row of one's own. -/
def vecIn (K : Nat) (e : TypeId) (sz : Nat) (blk : Option Nat) (off : Nat) (c : Conf) : Option Conf :=
 match c.fresh K with
 | false => none
 | true => match blk with
  | none => match c.top.tmps[off]? with
   | some .nils => some ⟨{ c.top with tmps := c.top.tmps.set off (.vec K) }, c.rest, (K, .arr e (.slc none sz [])) :: c.mem⟩
   | _ => none
  | some b => match c.mem.get b with
   | some (.cells t cs) => match cs[off]? with
    | some .nils => some ⟨c.top, c.rest, (K, .arr e (.slc none sz [])) :: c.mem.set b (.cells t (cs.set off (.vec K)))⟩
    | _ => none
   | _ => none

theorem denL_setVec {E : Env} {K : Nat} {l : List SV} {i : Nat} (h : l[i]? = some .nils) (hv : E.v K = (none, 0)) : SV.denL E (l.set i (.vec K)) = SV.denL E l := by
 rw [denL_set, SV.denL_eq]
 apply List.ext_getElem?
 intro j
 by_cases hj : j = i
 ·subst hj
  rw [List.getElem?_set_self (by have := (List.getElem?_eq_some_iff.1 h).1; simpa using this)]
  simp [h, SV.den, hv, hval]
 ·rw [List.getElem?_set_ne (Ne.symm hj)]

theorem vecIn_sound {P : Program} {C : Ctx} {R : Value → World → Prop} {K : Nat} {e : TypeId} {sz : Nat} {blk : Option Nat} {off : Nat} {c c' : Conf} (hc : vecIn K e sz blk off c = some c') (h : Runs P C c' R) : Runs P C c R := by
 intro E H w g ok
 unfold vecIn at hc
 split at hc
 ·cases hc
 ·rename_i hf
  obtain ⟨f1, f2, f3⟩ := fresh_spec hf
  have ha := E.agree_setV K 0 (none, 0)
  have hv : (E.setV K 0 (none, 0)).v K = (none, 0) := by simp [Env.setV]
  have cons : ∀ {m : Mem}, Good C m E H w → Mem.has K m = false → Good C ((K, .arr e (.slc none sz [])) :: m) (E.setV K 0 (none, 0)) H w := fun {m} gm hm =>
   Good.cons gm hm ha (Below.refl _ _) ⟨_, _, _, rfl, hv, ⟨by simp [flat], .inl ⟨rfl, rfl⟩⟩, by simp, by simp, by simp⟩ (fun hl => by simp [OBlk.Lies, D.hd] at hl)
  have hrest : c.rest.map (SFrm.den (E.setV K 0 (none, 0))) = c.rest.map (SFrm.den E) := rest_agree ha f3
  split at hc
  ·split at hc
   ·rename_i hn
    cases hc
    have hr := h (E.setV K 0 (none, 0)) H w (cons g f1) ⟨okL_putS (dst := some off) ok.1 (by simp [SV.Ok]), ok.2⟩
    simp only at hr
    rw [hrest] at hr
    have e1 : SFrm.den (E.setV K 0 (none, 0)) { c.top with tmps := c.top.tmps.set off (.vec K) } = c.top.den E := by
     simp only [SFrm.den]
     rw [denL_setVec hn hv, SV.denL_agree ha _ f2]
    rw [e1] at hr
    exact hr
   ·cases hc
  ·rename_i b
   split at hc
   ·rename_i t cs hg
    split at hc
    ·rename_i hn
     cases hc
     -- the block holds what it held
     have hmem := Mem.get_mem hg
     have g1 := cons g f1
     have hkb : b ≠ K := fun e => (Mem.has_key f1 _ hmem).1 (by rw [e])
     have hcs : SV.hasL K cs = false := (Mem.has_key f1 _ hmem).2
     have g2 : Good C ((K, .arr e (.slc none sz [])) :: c.mem.set b (.cells t (cs.set off (.vec K)))) (E.setV K 0 (none, 0)) H w := by
      have hspec := Mem.set_spec (o' := .cells t (cs.set off (.vec K))) g.keys hg
      refine ⟨g1.below, g1.ext, g1.fresh, g1.cell, fun k o hko => ?_, ?_, fun x y hx hy hne hlx hly => ?_⟩
      ·rcases List.mem_cons.1 hko with hk | hk
       ·exact g1.own k o (by rw [hk]; exact List.mem_cons_self)
       ·rcases hspec k o hk with ⟨rfl, rfl⟩ | ⟨hne, hm⟩
        ·obtain ⟨a1, a2, a3, a4⟩ := g1.own k _ (List.mem_cons_of_mem _ hmem)
         exact ⟨a1, by rw [denL_setVec hn hv]; exact a2, a3, okL_putS (dst := some off) a4 (by simp [SV.Ok])⟩
        ·exact g1.own k o (List.mem_cons_of_mem _ hm)
      ·rw [pairwise_keys]
       have := g1.keys
       rw [pairwise_keys] at this
       simpa [Mem.set_keys] using this
      ·have old : ∀ z : Nat × OBlk, z ∈ (K, OBlk.arr e (.slc none sz [])) :: c.mem.set b (.cells t (cs.set off (.vec K))) → z.2.Lies → ∃ o, (z.1, o) ∈ (K, OBlk.arr e (.slc none sz [])) :: c.mem ∧ o.Lies := by
        intro z hz hl
        rcases List.mem_cons.1 hz with rfl | hz
        ·exact ⟨_, List.mem_cons_self, hl⟩
        ·rcases hspec z.1 z.2 hz with ⟨h1, h2⟩ | ⟨_, hm⟩
         ·exact ⟨.cells t cs, List.mem_cons_of_mem _ (by rw [h1]; exact hmem), trivial⟩
         ·exact ⟨_, List.mem_cons_of_mem _ hm, hl⟩
       obtain ⟨ox, hx1, hx2⟩ := old x hx hlx
       obtain ⟨oy, hy1, hy2⟩ := old y hy hly
       exact g1.apart (x.1, ox) (y.1, oy) hx1 hy1 hne hx2 hy2
     have hr := h (E.setV K 0 (none, 0)) H w g2 ok
     simp only at hr
     rw [hrest] at hr
     have e1 : SFrm.den (E.setV K 0 (none, 0)) c.top = c.top.den E := by
      simp only [SFrm.den]
      rw [SV.denL_agree ha _ f2]
     rw [e1] at hr
     exact hr
    ·cases hc
   ·cases hc

end Sx
end
section
namespace Sx
open Go RowKit
def brA (f : SV → Tree) (d : SV) : List (Bool × SV) → Tree
 | [] => f d
 | (b, v) :: r => .br b (f v) (brA f d r)
def keyFor (c : Conf) (dst : Option Tmp) : Nat → Nat → Option Nat
 | 0, _ => none
 | n + 1, d => match c.fresh (dstKey d dst) with
  | true => some (dstKey d dst)
  | false => keyFor c dst n (d + 10)

theorem keyFor_spec {c : Conf} {dst : Option Tmp} : ∀ {n d key : Nat}, keyFor c dst n d = some key → c.fresh key = true
 | 0, _, _, h => by cases h
 | n + 1, d, key, h => by
  simp only [keyFor] at h
  split at h
  ·rename_i hc; cases h; exact hc
  ·exact keyFor_spec h

section
variable {β : Type _}
noncomputable def nzR (l : List SFrm) (k : List SFrm → β) : β :=
 List.rec (motive := fun _ => (List SFrm → β) → β) (fun k => k []) (fun x _ ih k => nzL SV.nz2 x.tmps fun t => ih fun r => k (⟨x.fn, x.ri, x.await, x.todo, t⟩ :: r)) l k
theorem nzR_eq : ∀ (l : List SFrm) (k : List SFrm → β), nzR l k = k l
 | [], _ => rfl
 | x :: r, k => by
  show nzL SV.nz2 x.tmps (fun t => nzR r fun r' => k (⟨x.fn, x.ri, x.await, x.todo, t⟩ :: r')) = _
  rw [nzL_eq SV.nz2_eq, nzR_eq r]
end
noncomputable def leafR (c : Conf) : Tree := nzR c.rest fun r => .leaf ⟨c.top, r, c.mem⟩
theorem leafR_eq : leafR = Tree.leaf := by funext c; simp only [leafR, nzR_eq]
theorem headR_sound {P : Program} {C : Ctx} {R : Value → World → Prop} {c : Conf} (h : (headC P c leafR).holds P C R) : Runs P C c R := headC_sound (by rwa [leafR_eq] at h)
def unroll (c : Conf) : Conf :=
 match c.top.todo with
 | .inLoop b :: k => { c with top := { c.top with todo := .code b :: .inLoop b :: k } }
 | _ => c
noncomputable def stepC (P : Program) (cs : Ctrs) (U : FuncId → Bool) (ih : Conf → Tree) (c : Conf) : Tree :=
 let s := c.top
 match s.ri with
 | some (_, []) => nz { c with top := { s with ri := none } } ih
 | some (ops, i :: l) =>
  match ops[i]? with
  | none => ih { c with top := { s with ri := some (ops, l) } }
  | some o =>
   match guardR ops o s.tmps with
   | .bad => .stuck
   | .no => ih { c with top := { s with ri := some (ops, l), tmps := putS s.tmps o.dst .undef } }
   | .fork t b => .br b (ih { c with top := { s with tmps := s.tmps.set t (.lb true) } }) (ih { c with top := { s with tmps := s.tmps.set t (.lb false) } })
   | .yes =>
    let quick := match opr P (evS s.tmps) c.mem 0 o.op with
     | .val ps v _ => needs ps (ih { c with top := { s with ri := some (ops, l), tmps := putS s.tmps o.dst v } })
     | _ => .stuck
    let plain := depthK c.rest 1 fun d => match keyFor c o.dst 40 d with
     | some key => match opr P (evS s.tmps) c.mem key o.op with
      | .val ps v m' => needs ps (ih { c with top := { s with ri := some (ops, l), tmps := putS s.tmps o.dst v }, mem := m' })
      | .all ps g => needs ps (.all fun hs => ih { c with top := { s with ri := some (ops, l), tmps := putS s.tmps o.dst (g (hs 0)).1 }, mem := (g (hs 0)).2 })
      | .bad => .stuck
     | none => .stuck
    match o.op with
    | .pick (.tmp t) _ _ =>
     match s.tmps[t]? with
     | some (.bool b) => .br b (ih { c with top := { s with tmps := s.tmps.set t (.lb true) } }) (ih { c with top := { s with tmps := s.tmps.set t (.lb false) } })
     | _ => quick
    | .store t a x =>
     match storeR P c.mem t (evS s.tmps a) (evS s.tmps x) with
     | some (ps, m') => needs ps (ih { c with top := { s with ri := some (ops, l), tmps := putS s.tmps o.dst .undef }, mem := m' })
     | none => .stuck
    | .call cl =>
     match calleeOf (evS s.tmps) cl.callee with
     | some (f, first, captured) =>
      let args := first ++ cl.args.toList.map (evS s.tmps) ++ captured
      match cs.find f with
      | some ctr =>
       depthK c.rest 1 fun d => match keyFor c o.dst 40 d with
       | some key =>
        match ctr args key c.mem with
        | .val ps v m' => needs ps (ih { c with top := { s with ri := some (ops, l), tmps := putS s.tmps o.dst v }, mem := m' })
        | .all ps g => needs ps (.all fun hs => ih { c with top := { s with ri := some (ops, l), tmps := putS s.tmps o.dst (g (hs 0)).1 }, mem := (g (hs 0)).2 })
        | .bad => .stuck
       | none => .stuck
      | none =>
       match P.funcs[f]? with
       | some fn => match fn.body with
        | some body => match fn.name == "runtime.NumGoroutine" with
         | true => .stuck
         | false => nz { top := ⟨f, none, none, [.code body], args ++ List.replicate (fn.ntmps - args.length) .undef⟩, rest := { s with ri := some (ops, l), await := o.dst } :: c.rest, mem := c.mem } ih
        | none => .stuck
       | none => .stuck
     | none => match quickOp o.op with
      | true => quick
      | false => plain
    | .lookup t x i ok =>
     match lookR P c.mem t (evS s.tmps x) (evS s.tmps i) ok with
     | some (al, d) => brA (fun v => ih { c with top := { s with ri := some (ops, l), tmps := putS s.tmps o.dst v } }) d al
     | none => .stuck
    | _ => match quickOp o.op with
     | true => quick
     | false => plain
 | none =>
  match s.todo with
  | [] => retC P (fun c => nz c ih) c
  | .code .ret :: _ => retC P (fun c => nz c ih) c
  | .code .skip :: k => ih { c with top := { s with todo := k } }
  | .code (.label _) :: k => ih { c with top := { s with todo := k } }
  | .inBlock _ :: k => ih { c with top := { s with todo := k } }
  | .inScope _ :: k => ih { c with top := { s with todo := k } }
  | .code (.scope b) :: k => ih { c with top := { s with todo := .code b :: .inScope b :: k } }
  | .code (.seq a b) :: k => ih { c with top := { s with todo := .code a :: .code b :: k } }
  | .code (.cond x a b) :: k =>
   match evS s.tmps x with
   | .lb true => ih { c with top := { s with todo := .code a :: k } }
   | .lb false => ih { c with top := { s with todo := .code b :: k } }
   | .bool t => .br t (ih { c with top := { s with todo := .code a :: k } }) (ih { c with top := { s with todo := .code b :: k } })
   | _ => .stuck
  | .code (.block id b) :: k => ih { c with top := { s with todo := .code b :: .inBlock id :: k } }
  | .code (.loop b) :: k => match U s.fn with
   | true => ih { c with top := { s with todo := .code b :: .inLoop b :: k } }
   | false => headC P { c with top := { s with todo := .inLoop b :: k } } leafR
  | .inLoop b :: k => match U s.fn with
   | true => ih { c with top := { s with todo := .code b :: .inLoop b :: k } }
   | false => headC P { c with top := { s with todo := .inLoop b :: k } } leafR
  | .code (.exit id) :: k => match exitTo id k with
   | some k' => ih { c with top := { s with todo := k' } }
   | none => .stuck
  | .code (.goto n) :: k => match gotoIn n k with
   | some k' => ih { c with top := { s with todo := k' } }
   | none => .stuck
  | .code (.region _ ops false) :: k => ih { c with top := { s with ri := some (ops, List.range ops.size), todo := k } }
  | .code (.region _ ops true) :: k => drawC P cs ih c ops k
  | _ => .stuck
noncomputable def execU (P : Program) (cs : Ctrs) (U : FuncId → Bool) (n : Nat) : Conf → Tree :=
 Nat.rec (motive := fun _ => Conf → Tree) (fun _ => .stuck) (fun _ ih c => stepC P cs U ih c) n

noncomputable def exec (P : Program) (cs : Ctrs) (n : Nat) : Conf → Tree := execU P cs (fun _ => false) n

end Sx
end
section
namespace Sx
open Go RowKit

section
variable {P : Program} {C : Ctx} {R : Value → World → Prop} {cs : Ctrs}

theorem after_of_holds {ih : Conf → Tree} (hih : ∀ c, (ih c).holds P C R → Runs P C c R) {r : OpR} {c : Conf} {ops : Array Oper} {l : List Nat} {dst : Option Tmp}
  (h : (match r with
   | .val ps v m' => needs ps (ih { c with top := { c.top with ri := some (ops, l), tmps := putS c.top.tmps dst v }, mem := m' })
   | .all ps g => needs ps (.all fun hs => ih { c with top := { c.top with ri := some (ops, l), tmps := putS c.top.tmps dst (g (hs 0)).1 }, mem := (g (hs 0)).2 })
   | .bad => .stuck : Tree).holds P C R) : r.After P C R c ops l dst := by
 cases r with
 | val ps v m' =>
  obtain ⟨h1, h2⟩ := needs_holds h
  exact ⟨h1, hih _ h2⟩
 | all ps g =>
  obtain ⟨h1, h2⟩ := needs_holds h
  exact ⟨h1, fun hs => hih _ (h2 fun _ => hs)⟩
 | bad => exact h.elim

theorem set_same_den (E : Env) {tmps : List SV} {t : Nat} {b : Bool} (ht : tmps[t]? = some (.bool b)) : SV.denL E (tmps.set t (.lb b)) = SV.denL E tmps := by
 rw [denL_set]
 simp only [SV.den]
 rw [SV.denL_eq]
 apply List.ext_getElem?
 intro i
 by_cases hi : i = t
 ·subst hi
  have hlt : i < tmps.length := (List.getElem?_eq_some_iff.1 ht).1
  rw [List.getElem?_set_self (by simpa using hlt)]
  simp [ht, SV.den]
 ·rw [List.getElem?_set_ne (Ne.symm hi)]

theorem ok_set_lb {H : HV} {tmps : List SV} (h : SV.OkL H tmps) (t : Nat) (b : Bool) : SV.OkL H (tmps.set t (.lb b)) :=
 okL_putS (dst := some t) h (by simp [SV.Ok])
theorem runs_fork {c : Conf} {t : Nat} {b : Bool} (ht : c.top.tmps[t]? = some (.bool b))
  (h1 : b = true → Runs P C { c with top := { c.top with tmps := c.top.tmps.set t (.lb true) } } R)
  (h2 : b = false → Runs P C { c with top := { c.top with tmps := c.top.tmps.set t (.lb false) } } R) : Runs P C c R := by
 cases b with
 | true => exact runs_top (h1 rfl) rfl rfl (fun H ok => ok_set_lb ok.1 t true) (fun E w T h => by simp only [SFrm.den, set_same_den E ht] at h ⊢; exact h)
 | false => exact runs_top (h2 rfl) rfl rfl (fun H ok => ok_set_lb ok.1 t false) (fun E w T h => by simp only [SFrm.den, set_same_den E ht] at h ⊢; exact h)

theorem brA_holds {f : SV → Tree} {d : SV} : ∀ {l : List (Bool × SV)}, (brA f d l).holds P C R → (f (pickA d l)).holds P C R
 | [], h => h
 | (true, v) :: r, h => h.1 rfl
 | (false, v) :: r, h => brA_holds (l := r) (h.2 rfl)

theorem step_sound (hcs : cs.Ok P) {U : FuncId → Bool} {ih : Conf → Tree} (hih : ∀ c, (ih c).holds P C R → Runs P C c R) (c : Conf) (h : (stepC P cs U ih c).holds P C R) : Runs P C c R := by
 obtain ⟨⟨fn, ri, aw, todo, tmps⟩, rest, mem⟩ := c
 cases ri with
 | some x =>
  obtain ⟨ops, l⟩ := x
  cases l with
  | nil =>
   simp only [stepC, nz_eq] at h
   exact runs_top (hih _ h) rfl rfl (fun H ok => ok.1) (fun E w T h => ⟨rfl, h⟩)
  | cons i l =>
   simp only [stepC] at h
   cases ho : ops[i]? with
   | none =>
    simp only [ho] at h
    refine runs_top (hih _ h) rfl rfl (fun H ok => ok.1) (fun E w T h => ?_)
    simp only [SFrm.den, CFrm.run, wpOps_cons] at h ⊢
    unfold wpOp
    simp only [ho]
    exact h
   | some o =>
    simp only [ho] at h
    cases hg : guardR ops o tmps with
    | bad => simp only [hg] at h; exact h.elim
    | no =>
     simp only [hg] at h
     refine runs_top (hih _ h) rfl rfl (fun H ok => okL_putS ok.1 (by simp [SV.Ok])) (fun E w T h => ?_)
     refine frm_no ho ((guardR_spec (E := E)).2.1 hg) ?_
     simp only [SFrm.den] at h ⊢
     rw [← put_den] at h
     exact h
    | fork t b =>
     simp only [hg] at h
     exact runs_fork (t := t) (b := b) ((guardR_spec (E := ⟨fun _ => 0, fun _ => (none, 0), fun _ => .bool false⟩)).2.2 t b hg) (fun hb => hih _ (h.1 hb)) (fun hb => hih _ (h.2 hb))
    | yes =>
     simp only [hg] at h
     have plain : ∀ (key : Nat), Conf.fresh key ⟨⟨fn, some (ops, i :: l), aw, todo, tmps⟩, rest, mem⟩ = true →
       (opr P (evS tmps) mem key o.op).After P C R ⟨⟨fn, some (ops, i :: l), aw, todo, tmps⟩, rest, mem⟩ ops l o.dst → Runs P C ⟨⟨fn, some (ops, i :: l), aw, todo, tmps⟩, rest, mem⟩ R :=
      fun key hf ha => runs_opr rfl ho hg hf ha
     -- an operation that reads alone
     have quick : quickOp o.op = true → (match opr P (evS tmps) mem 0 o.op with
       | .val ps v _ => needs ps (ih ⟨⟨fn, some (ops, l), aw, todo, putS tmps o.dst v⟩, rest, mem⟩)
       | _ => .stuck : Tree).holds P C R → Runs P C ⟨⟨fn, some (ops, i :: l), aw, todo, tmps⟩, rest, mem⟩ R := by
      intro hq h
      split at h
      ·rename_i ps v m' hr
       obtain ⟨h1, h2⟩ := needs_holds h
       have hr2 := hih _ h2
       intro E H w g ok
       obtain ⟨e1, e2⟩ := oprQ_spec (P := P) (o := o) (v := v) (ps := ps) g ok.1 (by simp only [oprQ, hq, if_true, hr]) h1
       have h3 := hr2 E H w g ⟨okL_putS ok.1 e2, ok.2⟩
       rw [stkRun_eq] at h3 ⊢
       simp only [SFrm.den] at h3 ⊢
       rw [← put_den] at h3
       exact frm_op ho ((guardR_spec (E := E)).1 hg) (.inl e1) h3
      ·exact h.elim
     have other : (depthK rest 1 fun d => match keyFor ⟨⟨fn, some (ops, i :: l), aw, todo, tmps⟩, rest, mem⟩ o.dst 40 d with
       | some key => match opr P (evS tmps) mem key o.op with
        | .val ps v m' => needs ps (ih ⟨⟨fn, some (ops, l), aw, todo, putS tmps o.dst v⟩, rest, m'⟩)
        | .all ps g => needs ps (.all fun hs => ih ⟨⟨fn, some (ops, l), aw, todo, putS tmps o.dst (g (hs 0)).1⟩, rest, (g (hs 0)).2⟩)
        | .bad => .stuck
       | none => .stuck : Tree).holds P C R → Runs P C ⟨⟨fn, some (ops, i :: l), aw, todo, tmps⟩, rest, mem⟩ R := by
      intro h
      rw [depthK_eq] at h
      split at h
      ·rename_i key hkey
       exact plain _ (keyFor_spec hkey) (after_of_holds hih h)
      ·exact h.elim
     have both : (match quickOp o.op with
       | true => (match opr P (evS tmps) mem 0 o.op with
        | .val ps v _ => needs ps (ih ⟨⟨fn, some (ops, l), aw, todo, putS tmps o.dst v⟩, rest, mem⟩)
        | _ => .stuck : Tree)
       | false => (depthK rest 1 fun d => match keyFor ⟨⟨fn, some (ops, i :: l), aw, todo, tmps⟩, rest, mem⟩ o.dst 40 d with
        | some key => match opr P (evS tmps) mem key o.op with
         | .val ps v m' => needs ps (ih ⟨⟨fn, some (ops, l), aw, todo, putS tmps o.dst v⟩, rest, m'⟩)
         | .all ps g => needs ps (.all fun hs => ih ⟨⟨fn, some (ops, l), aw, todo, putS tmps o.dst (g (hs 0)).1⟩, rest, (g (hs 0)).2⟩)
         | .bad => .stuck
        | none => .stuck) : Tree).holds P C R → Runs P C ⟨⟨fn, some (ops, i :: l), aw, todo, tmps⟩, rest, mem⟩ R := by
      intro h
      cases hq : quickOp o.op with
      | true => rw [hq] at h; exact quick hq h
      | false => rw [hq] at h; exact other h
     split at h
     ·rename_i t x y hop
      split at h
      ·rename_i b ht
       exact runs_fork (t := t) (b := b) ht (fun hb => hih _ (h.1 hb)) (fun hb => hih _ (h.2 hb))
      ·exact quick (by rw [hop]; rfl) h
     ·rename_i t a x hop
      split at h
      ·rename_i ps m' hst
       obtain ⟨h1, h2⟩ := needs_holds h
       have hr2 := hih _ h2
       intro E H w g ok
       obtain ⟨w', e1, e2, _⟩ := storeR_spec (P := P) g (ok_evS ok.1 x) hst h1
       have h3 := hr2 E H w' e2 ⟨okL_putS ok.1 (by simp [SV.Ok]), ok.2⟩
       rw [stkRun_eq] at h3 ⊢
       simp only [SFrm.den] at h3 ⊢
       rw [← put_den] at h3
       refine frm_op ho ((guardR_spec (E := E)).1 hg) (.inr ⟨?_, rfl⟩) h3
       unfold execOp
       simp only [hop, Sem.run_bind]
       rw [den_evS, den_evS, e1]
       rfl
      ·exact h.elim
     ·rename_i cl hop
      split at h
      ·rename_i f first captured hcal
       split at h
       ·rename_i ctr hfind
        rw [depthK_eq] at h
        split at h
        ·rename_i key hkey
         exact runs_ctr rfl ho hg (keyFor_spec hkey) hop hcal (hcs _ (Ctrs.find_mem hfind)) (after_of_holds hih h)
        ·exact h.elim
       ·split at h
        ·rename_i fn' hfn
         split at h
         ·rename_i body hb
          split at h
          ·exact h.elim
          ·rename_i hn
           rw [nz_eq] at h
           exact runs_in rfl ho hg hop hcal hfn hb (by simpa using hn) (hih _ h)
         ·exact h.elim
        ·exact h.elim
      ·exact both h
     ·rename_i t x i' ok hop
      split at h
      ·rename_i al d hlk
       have hr2 := hih _ (brA_holds h)
       intro E H w g ok2
       obtain ⟨e1, e2⟩ := lookR_spec (P := P) g hlk
       have h3 := hr2 E H w g ⟨okL_putS ok2.1 e2, ok2.2⟩
       rw [stkRun_eq] at h3 ⊢
       simp only [SFrm.den] at h3 ⊢
       rw [← put_den] at h3
       refine frm_op ho ((guardR_spec (E := E)).1 hg) (.inl ?_) h3
       unfold execOp
       simp only [hop, Sem.run_bind]
       rw [den_evS, den_evS, e1]
       rfl
      ·exact h.elim
     ·exact both h
 | none =>
  have hret : ∀ (todo' : List Item), (todo' = [] ∨ ∃ k, todo' = .code .ret :: k) →
    (retC P (fun c => nz c ih) ⟨⟨fn, none, aw, todo', tmps⟩, rest, mem⟩).holds P C R →
    Runs P C ⟨⟨fn, none, aw, todo', tmps⟩, rest, mem⟩ R := by
   intro todo' htodo h
   simp only [retC] at h
   cases hfn : P.funcs[fn]? with
   | none => simp only [hfn] at h; exact h.elim
   | some f =>
    simp only [hfn] at h
    cases hres : resS P mem tmps f.results.toList with
    | none => simp only [hres] at h; exact h.elim
    | some l =>
     simp only [hres] at h
     intro E H w g ok
     obtain ⟨h1, h2⟩ := run_results (P := P) g ok.1 hres
     have fin : ∀ T : Value → World → Prop, T ((one? l).den E) w → Go1 P fn todo' ⟨(SV.denL E tmps).toArray, []⟩ w T := by
      intro T hT
      rcases htodo with rfl | ⟨k, rfl⟩
      ·exact Go1.fin hfn rfl h1 hT
      ·exact Go1.ret hfn rfl h1 hT
     rw [stkRun_eq]
     simp only [SFrm.den, CFrm.run]
     refine fin _ ?_
     cases rest with
     | nil =>
      simp only [List.map_nil, restOf]
      obtain ⟨H', hle, g', _⟩ := pubsR_spec (leaves (one? l)) g
      obtain ⟨e1, e2⟩ := closeV_spec g' _ (h2.mono hle)
      rw [← e1]
      exact h E H' w (g'.sub (List.nil_sublist _)) e2
     | cons s r =>
      simp only [List.map_cons, restOf]
      have h : (nz _ ih).holds P C R := h
      rw [nz_eq] at h
      have hr := hih _ h E H w g ⟨okL_putS (ok.2 s List.mem_cons_self) h2, fun f hf => ok.2 f (List.mem_cons_of_mem _ hf)⟩
      simp only [SFrm.den] at hr ⊢
      rw [← put_den] at hr
      rw [stkRun_eq] at hr ⊢
      exact hr
  have one : ∀ (todo' : List Item), (∀ (b : Frame) cs w a, step P (lone (b.at a todo) cs w) = .next (lone (b.at a todo') cs w)) →
    Runs P C ⟨⟨fn, none, aw, todo', tmps⟩, rest, mem⟩ R → Runs P C ⟨⟨fn, none, aw, todo, tmps⟩, rest, mem⟩ R :=
   fun todo' hs hr => runs_top hr rfl rfl (fun H ok => ok.1) (fun E w T hh => Go1.step (fun b cs => hs b cs w _) hh)
  cases todo with
  | nil => exact hret [] (.inl rfl) h
  | cons it k =>
   cases it
   case inBlock id => exact one _ (fun b cs w a => step_inBlock) (hih _ h)
   case inScope bd => exact one _ (fun b cs w a => step_inScope) (hih _ h)
   case inLoop bd =>
    simp only [stepC] at h
    split at h
    ·exact one _ (fun b cs w a => step_inLoop) (hih _ h)
    ·exact headR_sound h
   case inRegion a b => exact h.elim
   case inRangeFunc a => exact h.elim
   case endRangeFunc a => exact h.elim
   case beginRound => exact h.elim
   case call => exact h.elim
   case code cd =>
    cases cd
    case refuse => exact h.elim
    case rangeFunc => exact h.elim
    case skip => exact one _ (fun b cs w a => step_skip) (hih _ h)
    case label n => exact one _ (fun b cs w a => step_label) (hih _ h)
    case seq a b => exact one _ (fun b cs w a => step_seq) (hih _ h)
    case scope b => exact one _ (fun b cs w a => step_scope) (hih _ h)
    case block id b => exact one _ (fun b cs w a => step_block) (hih _ h)
    case loop b =>
     -- at the head of a loop
     have headed : Runs P C ⟨⟨fn, none, aw, .inLoop b :: k, tmps⟩, rest, mem⟩ R → Runs P C ⟨⟨fn, none, aw, .code (.loop b) :: k, tmps⟩, rest, mem⟩ R := by
      intro hrun E H w g ok
      have hr := hrun E H w g ok
      rw [stkRun_eq] at hr ⊢
      refine Go1.step (fun fr cs => step_loop) ?_
      have hr2 : Go1 P fn (.inLoop b :: k) ⟨(SV.denL E tmps).toArray, []⟩ w _ := hr
      intro fr cs hb hk
      obtain ⟨v, w2, fr2, h1, ⟨n, hn⟩, h3⟩ := hr2 fr cs hb hk
      cases n with
      | zero =>
       simp only [runN] at hn
       obtain ⟨_, hl⟩ := h3
       have : fr2 = fr.at ⟨(SV.denL E tmps).toArray, []⟩ (.inLoop b :: k) := by
        simp only [Stepped.next.injEq, lone, Machine.mk.injEq] at hn
        have := hn.2.1
        simp at this
        exact this.symm
       subst this
       exact absurd hl.1 (by simp [Frame.at])
      | succ n =>
       simp only [runN] at hn
       rw [step_inLoop] at hn
       exact ⟨v, w2, fr2, h1, ⟨n, hn⟩, h3⟩
     simp only [stepC] at h
     split at h
     ·refine headed (runs_top (hih _ h) rfl rfl (fun H ok => ok.1) (fun E w T hh => Go1.step (fun fr cs => step_inLoop) hh))
     ·exact headed (headR_sound h)
    case ret => exact hret _ (.inr ⟨k, rfl⟩) h
    case exit id =>
     simp only [stepC] at h
     split at h
     ·rename_i k' hk; exact one _ (fun b cs w a => step_exit hk) (hih _ h)
     ·exact h.elim
    case goto n =>
     simp only [stepC] at h
     split at h
     ·rename_i k' hk; exact one _ (fun b cs w a => step_goto hk) (hih _ h)
     ·exact h.elim
    case cond x a b =>
     have go : ∀ (t : Bool), (∀ E, (evS tmps x).den E = .bool t) → Runs P C ⟨⟨fn, none, aw, .code (if t then a else b) :: k, tmps⟩, rest, mem⟩ R → Runs P C ⟨⟨fn, none, aw, .code (.cond x a b) :: k, tmps⟩, rest, mem⟩ R := by
      intro t ht hr
      refine runs_top hr rfl rfl (fun H ok => ok.1) (fun E w T hh => ?_)
      exact Go1.step (fun fr cs => step_cond (by rw [SFrm.den, den_evS]; exact ht E)) hh
     simp only [stepC] at h
     split at h
     ·rename_i hx; exact go true (fun E => by rw [hx]; rfl) (hih _ h)
     ·rename_i hx; exact go false (fun E => by rw [hx]; rfl) (hih _ h)
     ·rename_i t hx
      cases t with
      | true => exact go true (fun E => by rw [hx]; rfl) (hih _ (h.1 rfl))
      | false => exact go false (fun E => by rw [hx]; rfl) (hih _ (h.2 rfl))
     ·exact h.elim
    case region id ops draw =>
     cases draw with
     | true => exact drawC_sound hcs hih h
     | false =>
      refine runs_top (hih _ h) rfl rfl (fun H ok => ok.1) (fun E w T hh => ?_)
      exact Go1.code (wp_region hh)
   exact h.elim

theorem execU_sound (hcs : cs.Ok P) (U : FuncId → Bool) : ∀ (n : Nat) (c : Conf), (execU P cs U n c).holds P C R → Runs P C c R
 | 0, _, h => h.elim
 | n + 1, c, h => step_sound (U := U) (ih := execU P cs U n) hcs (fun c h => execU_sound hcs U n c h) c h

theorem exec_sound (hcs : cs.Ok P) (n : Nat) (c : Conf) (h : (exec P cs n c).holds P C R) : Runs P C c R := execU_sound hcs _ n c h
end
end Sx
end
section
namespace Sx
open Go RowKit
structure After (w : World) (H : HV) (w' : World) (H' : HV) : Prop where
 below : Below w.heap.size w w'
 le : HLe H H'
 fresh : ∀ b o v, H' b o = some v → H b o = some v ∨ w.heap.size ≤ b
 cell : ∀ b o v, H' b o = some v → w'.cell? ⟨b, o, none⟩ = some v

def InMem (H : HV) (w : World) : Prop := ∀ b o v, H b o = some v → w.cell? ⟨b, o, none⟩ = some v
def PCall (P : Program) (f : FuncId) (H : HV) (args : List Value) (T : HV → Value → Prop) : Prop :=
 ∀ w, InMem H w → Calls P f args.toArray w fun e w' => ∃ v H', e = .returned v ∧ After w H w' H' ∧ T H' v

def entry (P : Program) (f : FuncId) (args : List SV) : Conf :=
 match P.funcs[f]? with
 | some fn => match fn.body with
  | some b => ⟨⟨f, none, none, [.code b], args ++ List.replicate (fn.ntmps - args.length) .undef⟩, [], []⟩
  | none => ⟨⟨f, none, none, [], []⟩, [], []⟩
 | none => ⟨⟨f, none, none, [], []⟩, [], []⟩
def Bodied (P : Program) (f : FuncId) : Bool :=
 match P.funcs[f]? with
 | some fn => fn.body.isSome && !(fn.name == "runtime.NumGoroutine")
 | none => false

theorem bodied_spec {P : Program} {f : FuncId} (h : Bodied P f = true) : ∃ fn, P.funcs[f]? = some fn ∧ fn.body.isSome = true ∧ (fn.name == "runtime.NumGoroutine") = false := by
 unfold Bodied at h
 split at h
 ·rename_i fn hfn
  simp only [Bool.and_eq_true, Bool.not_eq_true'] at h
  exact ⟨fn, hfn, h.1, h.2⟩
 ·cases h

section
variable {P : Program} {f : FuncId} {H : HV}

theorem good_start {w : World} (hc : InMem H w) (E : Env) : Good ⟨w, H⟩ [] E H w :=
 ⟨Below.refl _ _, HLe.refl _, fun _ _ _ h => .inl h, hc, by simp, List.Pairwise.nil, by simp⟩
theorem pcall {args : List SV} {T : HV → Value → Prop} (hb : Bodied P f = true) (hok : SV.OkL H args) (E : Env)
  (h : ∀ w, Runs P ⟨w, H⟩ (entry P f args) fun v w' => ∃ H', After w H w' H' ∧ T H' v) : PCall P f H (SV.denL E args) T := by
 intro w hc
 obtain ⟨fn, hfn, hbs, _⟩ := bodied_spec hb
 cases hbody : fn.body with
 | none => rw [hbody] at hbs; cases hbs
 | some b =>
  have he := h w
  simp only [entry, hfn, hbody] at he
  have hr := he E H w (good_start hc E) ⟨okL_append hok (by rw [SV.OkL_iff]; intro x hx; rw [List.eq_of_mem_replicate hx]; simp [SV.Ok]), by simp⟩
  rw [stkRun_eq] at hr
  simp only [List.map_nil, restOf, SFrm.den, CFrm.run] at hr
  have e3 : (SV.denL E args).toArray ++ Array.replicate (fn.ntmps - (SV.denL E args).toArray.size) undef = (SV.denL E (args ++ List.replicate (fn.ntmps - args.length) .undef)).toArray := by
   simp [SV.denL_eq, SV.den, ← List.toArray_replicate]
  have hcall := calls_of_go1 (P := P) (f := f) (args := (SV.denL E args).toArray) (w := w) hfn hbody (by rw [e3]; exact hr)
  exact Calls.mono hcall fun e w' ⟨v, hv, H', h1, h2⟩ => ⟨v, H', hv, h1, h2⟩
theorem after_good {w w' : World} {m : Mem} {E : Env} {H' : HV} (g : Good ⟨w, H⟩ m E H' w') : After w H w' H' := ⟨g.below, g.ext, g.fresh, g.cell⟩

theorem unroll_sound {C : Ctx} {R : Value → World → Prop} {c : Conf} (hri : c.top.ri = none) (h : Runs P C (unroll c) R) : Runs P C c R := by
 obtain ⟨⟨fn, ri, aw, todo, tmps⟩, rest, mem⟩ := c
 simp only at hri
 subst hri
 unfold unroll at h
 split at h
 ·rename_i b k he
  simp only at he
  subst he
  exact runs_top h rfl rfl (fun H ok => ok.1) (fun E w T hh => Go1.step (fun fr cs => step_inLoop) hh)
 ·exact h
inductive SpecR where
 | scalar (ps : List Prop) (v : SV)
 | data (ps : List Prop) (g : (Nat → D) → SV)
 | no
def SV.flat : SV → Bool
 | .int .. => true
 | .bool _ => true
 | .lb _ => true
 | _ => false

mutual
def SV.shutV : SV → Bool
 | .int .. => true
 | .bool _ => true
 | .lb _ => true
 | .str _ => true
 | .nils => true
 | .dat _ => true
 | .nilp => true
 | .agg l => SV.shutL l
 | .tup l => SV.shutL l
 | _ => false
def SV.shutL : List SV → Bool
 | [] => true
 | x :: r => SV.shutV x && SV.shutL r
end
def Law (P : Program) (f : FuncId) (spec : List SV → SpecR) : Prop :=
 Bodied P f = true ∧ ∀ (H : HV) (E : Env) (args : List SV), SV.OkL H args →
  match spec args with
  | .scalar ps v => (∀ p, p ∈ ps → p) → PCall P f H (SV.denL E args) fun _ u => u = v.den E
  | .data ps g => (∀ p, p ∈ ps → p) → PCall P f H (SV.denL E args) fun H' u => ∃ hs, u = (g hs).den E ∧ (g hs).Ok H'
  | .no => True
def ctrOf (spec : List SV → SpecR) : Ctr := fun args _ m =>
 match spec (closeL (pubsR (leavesL args) m) args) with
 | .scalar ps v => if v.flat then .val ps v m else .bad
 | .data ps g => .all ps fun hs => (g hs, pubsR (leavesL args) m)
 | .no => .bad

theorem closeL_spec {C : Ctx} {E : Env} {H : HV} {w : World} {m : Mem} (g : Good C m E H w) : ∀ l : List SV, SV.OkL H l → SV.denL E (closeL m l) = SV.denL E l ∧ SV.OkL H (closeL m l)
 | [], _ => by simp [closeL, SV.denL, SV.OkL]
 | x :: r, h => by
  obtain ⟨a, b⟩ := closeV_spec g x h.1
  obtain ⟨c, d⟩ := closeL_spec g r h.2
  exact ⟨by simp only [closeL, SV.denL, a, c], b, d⟩

theorem pubsR_ro {m : Mem} (h : roM m = true) : ∀ l : List SV, pubsR l m = m
 | [] => rfl
 | x :: r => by
  have hget : ∀ (m : Mem), roM m = true → ∀ k e d, m.get k ≠ some (.arr e d) := by
   intro m
   induction m with
   | nil => intro _ k e d h; cases h
   | cons y s ih =>
    intro hm k e d hk
    obtain ⟨j, o⟩ := y
    simp only [Mem.get] at hk
    cases o with
    | cells t cs =>
     simp only [roM] at hm
     split at hk
     ·cases hk
     ·exact ih hm k e d hk
    | map es =>
     simp only [roM] at hm
     split at hk
     ·cases hk
     ·exact ih hm k e d hk
    | arr e d => simp [roM] at hm
    | pub d => simp [roM] at hm
  have h1 : pubR m x = m := by
   unfold pubR
   split
   ·split
    ·rename_i hk; exact absurd hk (hget m h _ _ _)
    ·rfl
   ·rfl
  rw [pubsR, h1]
  exact pubsR_ro h r

theorem ctrOf_ro {spec : List SV → SpecR} : CtrRO (ctrOf spec) := by
 intro args key m h
 unfold ctrOf
 cases spec (closeL (pubsR (leavesL args) m) args) with
 | no => trivial
 | scalar ps v => by_cases hf : v.flat = true <;> simp [hf]
 | data ps g => simp only [pubsR_ro h]; intros; trivial

theorem ctrOf_ok {spec : List SV → SpecR} (h : Law P f spec) : CtrOk P f (ctrOf spec) := by
 refine ⟨bodied_spec h.1, fun C E H w args key m g hargs hk hk2 => ?_, ctrOf_ro⟩
 obtain ⟨H1, hle, g1, nw⟩ := pubsR_spec (leavesL args) g
 have hpm := pubsR_mem (leavesL args) (m := m)
 obtain ⟨e1, e2⟩ := closeL_spec g1 args (SV.OkL.mono hle _ hargs)
 have hl := h.2 H1 E _ e2
 unfold CallRight ctrOf
 cases hs : spec (closeL (pubsR (leavesL args) m) args) with
 | no => simp
 | scalar ps v =>
  simp only [hs] at hl ⊢
  split
  ·rename_i r ps' v' m' he
   split at he
   ·rename_i hfl
    simp only [OpR.val.injEq] at he
    obtain ⟨rfl, rfl, rfl⟩ := he
    intro hp
    have hc := hl hp w g1.cell
    rw [e1] at hc
    refine Calls.mono hc fun e w' ⟨u, H', he, ha, hu⟩ => ?_
    refine ⟨E, H, by rw [he, hu], Agree.refl _ _, HLe.refl _, g.call ha.below (HLe.refl _) (fun _ _ _ h => .inl h) (fun b o v hb => ha.cell b o v (ha.le b o v (hle b o v hb))), ?_⟩
    refine ⟨by cases v <;> simp [SV.flat] at hfl <;> simp [SV.Ok], ha.below.size, fun b hb _ => ha.below.block b hb, fun _ _ _ h => .inl h, fun k o h => .inr ⟨o, h⟩, fun k o h hl => .inr ⟨k, o, h, hl, rfl⟩, ha.below.os, ha.below.tape, ha.below.output⟩
   ·cases he
  ·rename_i r ps' g' he
   split at he <;> cases he
  ·trivial
 | data ps gg =>
  simp only [hs] at hl ⊢
  intro hp
  have hc := hl hp w g1.cell
  rw [e1] at hc
  refine Calls.mono hc fun e w' ⟨u, H', he, ha, hs', hu, hok⟩ => ?_
  exact ⟨hs', E, H', by rw [he, hu], Agree.refl _ _, hle.trans ha.le, g1.call ha.below ha.le ha.fresh ha.cell, hok, ha.below.size, fun b hb _ => ha.below.block b hb, fun b x v h => (by
   rcases ha.fresh b x v h with h1 | h1
   ·exact (nw b x v h1).imp id .inr
   ·exact .inr (.inl h1)), fun k o h => .inr (hpm k o h).1, fun k o h hl => .inr ⟨k, o, (hpm k o h).2 hl, hl, rfl⟩, ha.below.os, ha.below.tape, ha.below.output⟩
end
end Sx
end
section
namespace Sx
open Go

def subC : Code → List Nat → Code
 | c, [] => c
 | .seq a _, 0 :: r => subC a r
 | .seq _ b, 1 :: r => subC b r
 | .cond _ a _, 0 :: r => subC a r
 | .cond _ _ b, 1 :: r => subC b r
 | .block _ b, 0 :: r => subC b r
 | .loop b, 0 :: r => subC b r
 | .scope b, 0 :: r => subC b r
 | c, _ => c
def cAt (P : Program) (f : FuncId) (p : List Nat) : Code :=
 match P.funcs[f]? with
 | some fn => match fn.body with
  | some b => subC b p
  | none => .skip
 | none => .skip
def opsAt (P : Program) (f : FuncId) (p : List Nat) : Array Oper :=
 match cAt P f p with
 | .region _ ops _ => ops
 | _ => #[]

def slotS (l : List (Nat × SV)) (t : Nat) (d : SV) : SV :=
 match l with
 | [] => d
 | (u, v) :: r => if u == t then v else slotS r t d
def mkJ (d : Nat) (l : List (Nat × SV)) : Nat → Nat → List SV
 | _, 0 => []
 | t, n + 1 => slotS l t (.junk (1000 * d + t)) :: mkJ d l (t + 1) n
def mkU (l : List (Nat × SV)) : Nat → Nat → List SV
 | _, 0 => []
 | t, n + 1 => slotS l t .undef :: mkU l (t + 1) n
def mkL (f : FuncId) (todo : List Item) (n : Nat) (l : List (Nat × SV)) (m : Mem) : Conf := ⟨⟨f, none, none, todo, mkJ 0 l 0 n⟩, [], m⟩
end Sx
end
section
namespace Sx
open Go RowKit

def mkInts (h : Hd) (s : Nat) (xs : List Int) : D := .slc h s (xs.map fun x => [.int .i64 x])
def D.ints (d : D) : List Int := d.rows.map fun r => match r with | .int _ n :: _ => n | _ => 0

def D.IsInts (d : D) : Prop := ∃ h s xs, d = mkInts h s xs

section
variable (h : Hd) (s : Nat) (xs : List Int)
@[simp] theorem mkInts_len : (mkInts h s xs).len = xs.length := by simp [mkInts, D.len, D.rows]
@[simp] theorem mkInts_sz : (mkInts h s xs).sz = s := rfl
@[simp] theorem mkInts_hd : (mkInts h s xs).hd = h := rfl
@[simp] theorem mkInts_isNil : (mkInts h s xs).isNil = h.isNone := rfl
@[simp] theorem mkInts_ints : (mkInts h s xs).ints = xs := by
 simp only [mkInts, D.ints, D.rows, List.map_map]
 have : ((fun r : List D => match r with | .int _ n :: _ => n | _ => 0) ∘ fun x : Int => [D.int .i64 x]) = id := by funext x; rfl
 rw [this]; simp
@[simp] theorem mkInts_is : (mkInts h s xs).IsInts := ⟨h, s, xs, rfl⟩
@[simp] theorem mkInts_slc : (mkInts h s xs).IsSlc := ⟨h, s, _, rfl⟩
theorem mkInts_cellAt (i j : Nat) : (mkInts h s xs).cellAt i j = if j = 0 then (xs[i]?).map (D.int .i64) else none := by
 simp only [mkInts, D.cellAt, D.rows, List.getElem?_map]
 cases xs[i]? with
 | none => simp
 | some x => cases j <;> simp
@[simp] theorem mkInts_getInt (i : Nat) : (mkInts h s xs).getInt i 0 = xs.getD i 0 := by
 simp only [D.getInt, mkInts_cellAt, if_true, List.getD_eq_getElem?_getD]
 cases xs[i]? <;> rfl
@[simp] theorem mkInts_has (i : Nat) : (mkInts h s xs).HasCell i 0 (.int .i64) ↔ i < xs.length := by
 simp only [D.HasCell, mkInts_cellAt, if_true]
 constructor
 ·rintro ⟨n, hn⟩
  cases hx : xs[i]? with
  | none => simp [hx] at hn
  | some x => exact (List.getElem?_eq_some_iff.1 hx).1
 ·intro hi
  exact ⟨xs[i], by simp [hi]⟩
end
theorem wrap64 {n : Int} (h1 : -9223372036854775808 ≤ n) (h2 : n ≤ 9223372036854775807) : IntKind.i64.wrap n = n := by
 unfold IntKind.wrap
 simp only [IntKind.bits, IntKind.signed]
 by_cases h : n % 2 ^ 64 ≥ 2 ^ (64 - 1)
 ·simp [h]; omega
 ·simp [h]; omega
end Sx
end
section
namespace Sx
open Go RowKit

theorem noCtr (P : Program) : Ctrs.Ok P [] := fun _ h => by cases h
def env0 : Env := ⟨fun _ => 0, fun _ => (none, 0), fun _ => .bool false⟩
theorem runs_loop {P : Program} {C : Ctx} {R : Value → World → Prop} {σ : Type} (L : σ → Conf) (I : σ → Prop) (m : σ → Nat) (hri : ∀ s, (L s).top.ri = none)
  (hstep : ∀ s, I s → (∀ s', I s' → m s' < m s → Runs P C (L s') R) → Runs P C (unroll (L s)) R) : ∀ s, I s → Runs P C (L s) R := by
 have key : ∀ k s, m s = k → I s → Runs P C (L s) R := by
  intro k
  induction k using Nat.strongRecOn with
  | _ k ih =>
   intro s hk hI
   exact unroll_sound (hri s) (hstep s hI fun s' hI' hlt => ih (m s') (by omega) s' rfl hI')
 exact fun s hI => key _ s rfl hI
def SV.d? : SV → Option D
 | .nils => some (.slc none 0 [])
 | .dat d => some d
 | _ => none

theorem SV.d?_spec {H : HV} {E : Env} {v : SV} {d : D} (h : v.d? = some d) (hok : v.Ok H) : v.den E = d.val ∧ d.Ok H := by
 cases v <;> simp [SV.d?] at h <;> subst h
 ·exact ⟨by simp [SV.den, D.val, hval], .nil 0⟩
 ·exact ⟨by simp [SV.den], hok.1⟩


@[simp] theorem holds_br {P : Program} {C : Ctx} {R : Value → World → Prop} {b : Bool} {t f : Tree} : (Tree.br b t f).holds P C R ↔ (b = true → t.holds P C R) ∧ (b = false → f.holds P C R) := Iff.rfl
theorem ret_plain {P : Program} {w : World} {H : HV} {v : SV} {u : Value} (h : ∀ E, v.den E = u) : (Tree.ret v).holds P ⟨w, H⟩ fun v w' => ∃ H', After w H w' H' ∧ v = u :=
 fun E H' w' g _ => ⟨H', after_good g, h E⟩
theorem law_of {P : Program} {f : FuncId} {spec : List SV → SpecR} (hb : Bodied P f = true)
  (hs : ∀ args ps v, spec args = .scalar ps v → ∀ (H : HV) (E : Env), SV.OkL H args → (∀ p, p ∈ ps → p) → PCall P f H (SV.denL E args) fun _ u => u = v.den E)
  (hd : ∀ args ps g, spec args = .data ps g → ∀ (H : HV) (E : Env), SV.OkL H args → (∀ p, p ∈ ps → p) → PCall P f H (SV.denL E args) fun H' u => ∃ hs, u = (g hs).den E ∧ (g hs).Ok H') : Law P f spec := by
 refine ⟨hb, fun H E args hargs => ?_⟩
 cases h : spec args with
 | scalar ps v => exact hs args ps v h H E hargs
 | data ps g => exact hd args ps g h H E hargs
 | no => trivial
end Sx
end
section
namespace Sx
open Go RowKit

class Codec (α : Type) where
 sz : Nat
 ok : List D → Prop
 dec : List D → α
 enc : α → List D
 ok_enc : ∀ a, ok (enc a)
 dec_enc : ∀ a, dec (enc a) = a
 len : ∀ r, ok r → r.length = sz

section
variable (α : Type) [Codec α]
def D.Is (d : D) : Prop := ∃ h s rows, d = .slc h s rows ∧ (rows = [] ∨ s = Codec.sz α) ∧ ∀ r, r ∈ rows → Codec.ok α r
def D.to (d : D) : List α := d.rows.map (Codec.dec (α := α))
end

section
variable {α : Type} [Codec α]

open Classical in
noncomputable def D.like (d : D) (xs : List α) : D := if d.Is α ∧ d.to α = xs then d else .slc none (Codec.sz α) (xs.map Codec.enc)

theorem D.like_is (d : D) (xs : List α) : (d.like xs).Is α := by
 unfold D.like
 split
 ·rename_i h; exact h.1
 ·exact ⟨_, _, _, rfl, .inr rfl, fun r hr => by obtain ⟨x, _, rfl⟩ := List.mem_map.1 hr; exact Codec.ok_enc x⟩

theorem D.like_to (d : D) (xs : List α) : (d.like xs).to α = xs := by
 unfold D.like
 split
 ·rename_i h; exact h.2
 ·simp only [D.to, D.rows, List.map_map]
  conv => rhs; rw [← List.map_id xs]
  exact List.map_congr_left fun x _ => Codec.dec_enc x

theorem D.like_self {d : D} {xs : List α} (h : d.Is α) (h' : d.to α = xs) : d.like xs = d := by
 unfold D.like
 rw [if_pos ⟨h, h'⟩]

theorem D.Is.slc {d : D} (h : d.Is α) : d.IsSlc := by obtain ⟨a, b, c, rfl, _⟩ := h; exact ⟨a, b, c, rfl⟩

theorem D.Is.length (d : D) : d.len = (d.to α).length := by simp [D.len, D.to]

theorem D.Is.size {d : D} (h : d.Is α) {i : Nat} (hi : i < (d.to α).length) : d.sz = Codec.sz α := by
 obtain ⟨a, b, c, rfl, h1, h2⟩ := h
 rcases h1 with rfl | h1
 ·simp [D.to, D.rows] at hi
 ·exact h1

theorem D.Is.fits {d : D} (h : d.Is α) : d.Fits (Codec.sz α) := by
 obtain ⟨a, b, c, rfl, h1, h2⟩ := h
 exact h1
theorem D.Is.row {d : D} (h : d.Is α) {i : Nat} (hi : i < (d.to α).length) : ∃ r, d.rows[i]? = some r ∧ Codec.ok α r ∧ (d.to α)[i] = Codec.dec r := by
 obtain ⟨a, b, c, rfl, h1, h2⟩ := h
 simp only [D.to, D.rows, List.length_map] at hi
 refine ⟨c[i], by simp [D.rows, hi], h2 _ (List.getElem_mem hi), by simp [D.to, D.rows]⟩
theorem is_rows {h : Hd} {rows : List (List D)} {s : Nat} (hs : s = Codec.sz α) (hr : ∀ r, r ∈ rows → Codec.ok α r) : (D.slc h s rows).Is α := ⟨_, _, _, rfl, .inr hs, hr⟩

theorem is_nil (h : Hd) (s : Nat) : (D.slc h s []).Is α := ⟨_, _, _, rfl, .inl rfl, by simp⟩
theorem D.Is.sub {d : D} (hd : d.Is α) (l h : Nat) : (d.sub l h).Is α ∧ (d.sub l h).to α = ((d.to α).drop l).take (h - l) := by
 obtain ⟨a, b, c, rfl, h1, h2⟩ := hd
 refine ⟨⟨_, _, _, rfl, ?_, fun r hr => h2 r (List.mem_of_mem_drop (List.mem_of_mem_take hr))⟩, ?_⟩
 ·rcases h1 with rfl | h1
  ·left; simp [D.rows]
  ·exact .inr h1
 ·simp [D.sub, D.to, D.rows, List.map_take, List.map_drop]

theorem D.Is.sub3 {d : D} (hd : d.Is α) (l h : Nat) : (d.sub3 l h).Is α ∧ (d.sub3 l h).to α = ((d.to α).drop l).take (h - l) := by
 obtain ⟨a, b, c, rfl, h1, h2⟩ := hd
 refine ⟨⟨_, _, _, rfl, ?_, fun r hr => h2 r (List.mem_of_mem_drop (List.mem_of_mem_take hr))⟩, ?_⟩
 ·rcases h1 with rfl | h1
  ·left; simp [D.rows]
  ·exact .inr h1
 ·simp [D.sub3, D.to, D.rows, List.map_take, List.map_drop]
end

/-! Numbers. -/
instance : Codec Int where
 sz := 1
 ok r := ∃ n, r = [.int .i64 n]
 dec r := match r with | .int _ n :: _ => n | _ => 0
 enc n := [.int .i64 n]
 ok_enc n := ⟨n, rfl⟩
 dec_enc _ := rfl
 len r := by rintro ⟨n, rfl⟩; rfl

/-! Bytes. -/
structure Byte where
 n : Int
deriving DecidableEq

instance : Codec Byte where
 sz := 1
 ok r := ∃ n, r = [.int .u8 n]
 dec r := match r with | .int _ n :: _ => ⟨n⟩ | _ => ⟨0⟩
 enc n := [.int .u8 n.n]
 ok_enc n := ⟨n.n, rfl⟩
 dec_enc _ := rfl
 len r := by rintro ⟨n, rfl⟩; rfl

instance : Codec Bool where
 sz := 1
 ok r := ∃ b, r = [.bool b]
 dec r := match r with | .bool b :: _ => b | _ => false
 enc b := [.bool b]
 ok_enc b := ⟨b, rfl⟩
 dec_enc _ := rfl
 len r := by rintro ⟨n, rfl⟩; rfl

@[simp] theorem sz_int : Codec.sz Int = 1 := rfl
@[simp] theorem sz_byte : Codec.sz Byte = 1 := rfl
@[simp] theorem sz_bool : Codec.sz Bool = 1 := rfl
@[simp] theorem ok_int (n : Int) : Codec.ok Int [.int .i64 n] := ⟨n, rfl⟩
@[simp] theorem dec_int (n : Int) : (Codec.dec [.int .i64 n] : Int) = n := rfl
@[simp] theorem ok_bool (b : Bool) : Codec.ok Bool [.bool b] := ⟨b, rfl⟩
@[simp] theorem dec_bool (b : Bool) : (Codec.dec [.bool b] : Bool) = b := rfl
@[simp] theorem ok_byte (n : Int) : Codec.ok Byte [.int .u8 n] := ⟨n, rfl⟩

theorem int_cell {d : D} (h : d.Is Int) {i : Nat} (hi : i < (d.to Int).length) : d.getInt i 0 = (d.to Int)[i] ∧ d.HasCell i 0 (.int .i64) := by
 obtain ⟨r, h1, ⟨n, rfl⟩, h3⟩ := h.row hi
 rw [h3]
 exact ⟨by simp [D.getInt, D.cellAt, h1], n, by simp [D.cellAt, h1]⟩

theorem bool_cell {d : D} (h : d.Is Bool) {i : Nat} (hi : i < (d.to Bool).length) : d.getBool i 0 = (d.to Bool)[i] ∧ d.HasCell i 0 .bool := by
 obtain ⟨r, h1, ⟨n, rfl⟩, h3⟩ := h.row hi
 rw [h3]
 exact ⟨by simp [D.getBool, D.cellAt, h1], n, by simp [D.cellAt, h1]⟩

end Sx
namespace Sx
@[simp] theorem len_slc (h : Hd) (s : Nat) (rows : List (List D)) : (D.slc h s rows).len = rows.length := rfl
@[simp] theorem rows_slc (h : Hd) (s : Nat) (rows : List (List D)) : (D.slc h s rows).rows = rows := rfl
@[simp] theorem sz_slc (h : Hd) (s : Nat) (rows : List (List D)) : (D.slc h s rows).sz = s := rfl
@[simp] theorem hd_slc (h : Hd) (s : Nat) (rows : List (List D)) : (D.slc h s rows).hd = h := rfl
@[simp] theorem append_list {α : Type _} (a b : List α) : List.append a b = a ++ b := rfl
def SRows (α : Type) [Codec α] (rows : List (List D)) (xs : List α) : Prop := (∀ r, r ∈ rows → Codec.ok α r) ∧ rows.map Codec.dec = xs

section
variable {α : Type} [Codec α]
theorem rows_of {d : D} (h : d.Is α) : SRows α d.rows (d.to α) := by
 obtain ⟨a, b, c, rfl, _, h2⟩ := h
 exact ⟨h2, rfl⟩
theorem rows_app {a b : List (List D)} {xs ys : List α} (h : SRows α a xs) (h' : SRows α b ys) : SRows α (List.append a b) (xs ++ ys) := by
 refine ⟨fun r hr => ?_, by simp [h.2, h'.2]⟩
 rcases List.mem_append.1 hr with hr | hr
 ·exact h.1 r hr
 ·exact h'.1 r hr
theorem rows_one {r : List D} {x : α} (h : Codec.ok α r) (h' : Codec.dec r = x) : SRows α [r] [x] :=
 ⟨fun s hs => by rw [List.mem_singleton.1 hs]; exact h, by simp [h']⟩
theorem rows_len {rows : List (List D)} {xs : List α} (h : SRows α rows xs) : rows.length = xs.length := by rw [← h.2]; simp
theorem is_of {h : Hd} {s : Nat} {rows : List (List D)} {xs : List α} (hs : s = Codec.sz α) (hr : SRows α rows xs) : (D.slc h s rows).Is α ∧ (D.slc h s rows).to α = xs := ⟨is_rows hs hr.1, hr.2⟩
def Stands (α : Type) [Codec α] (X : SV) (xs : List α) : Prop := ∃ d : D, (∀ E, X.den E = d.val) ∧ d.Is α ∧ d.to α = xs ∧ ∀ H, X.Ok H → d.Ok H

theorem stands_nils : Stands α .nils [] := ⟨.slc none 0 [], fun _ => by simp [SV.den, D.val, hval], is_nil _ _, rfl, fun _ _ => .nil 0⟩
theorem stands_dat {d : D} {xs : List α} (h : d.Is α) (h' : d.to α = xs) : Stands α (.dat d) xs := ⟨d, fun _ => by simp [SV.den], h, h', fun _ h => h.1⟩
theorem stands_like {d : D} {xs : List α} : Stands α (.dat (d.like xs)) xs := stands_dat (D.like_is d xs) (D.like_to d xs)
theorem stands_rows {h : Hd} {s : Nat} {rows : List (List D)} {xs : List α} (hs : s = Codec.sz α) (hr : SRows α rows xs) : Stands α (.dat (.slc h s rows)) xs := stands_dat (is_of hs hr).1 (is_of hs hr).2
theorem stands_self {d : D} (h : d.Is α) : Stands α (.dat d) (d.to α) := stands_dat h rfl
end
theorem nil_rows {H : HV} {d : D} (hok : d.Ok H) (hn : d.isNil = true) : d.rows = [] := by
 cases hok with
 | nil => rfl
 | slc a c sz rows => simp [D.isNil, D.hd] at hn
 | _ => rfl
end Sx
end
section
namespace Sx
open Go RowKit
structure Rd (β : Type) where
 read : List SV → Option β
 canon : β → List SV
 right : ∀ (H : HV) (E : Env) (args : List SV) (b : β), read args = some b → SV.OkL H args → SV.denL E args = SV.denL E (canon b) ∧ SV.OkL H (canon b)
structure Rd1 (β : Type) where
 read : SV → Option β
 canon : β → SV
 right : ∀ (H : HV) (E : Env) (x : SV) (b : β), read x = some b → x.Ok H → x.den E = (canon b).den E ∧ (canon b).Ok H

def Rd.sp {β : Type} (r : Rd β) (spec : β → SpecR) (args : List SV) : SpecR :=
 match r.read args with
 | some b => spec b
 | none => .no

def Rd1.one {α : Type} (a : Rd1 α) : Rd α where
 read l := match l with | [x] => a.read x | _ => none
 canon b := [a.canon b]
 right H E args b h hok := by
  split at h
  ·obtain ⟨h1, h2⟩ := a.right H E _ b h hok.1
   exact ⟨by simp only [SV.denL, h1], h2, trivial⟩
  ·cases h

def Rd1.two {α β : Type} (a : Rd1 α) (b : Rd1 β) : Rd (α × β) where
 read l := match l with
  | [x, y] => match a.read x, b.read y with
   | some p, some q => some (p, q)
   | _, _ => none
  | _ => none
 canon p := [a.canon p.1, b.canon p.2]
 right H E args p h hok := by
  split at h
  ·split at h
   ·rename_i h1 h2
    cases h
    obtain ⟨i1, i2⟩ := a.right H E _ _ h1 hok.1
    obtain ⟨j1, j2⟩ := b.right H E _ _ h2 hok.2.1
    exact ⟨by simp only [SV.denL, i1, j1], i2, j2, trivial⟩
   ·cases h
  ·cases h

def Rd1.three {α β γ : Type} (a : Rd1 α) (b : Rd1 β) (c : Rd1 γ) : Rd (α × β × γ) where
 read l := match l with
  | [x, y, z] => match a.read x, b.read y, c.read z with
   | some p, some q, some r => some (p, q, r)
   | _, _, _ => none
  | _ => none
 canon p := [a.canon p.1, b.canon p.2.1, c.canon p.2.2]
 right H E args p h hok := by
  split at h
  ·split at h
   ·rename_i h1 h2 h3
    cases h
    obtain ⟨i1, i2⟩ := a.right H E _ _ h1 hok.1
    obtain ⟨j1, j2⟩ := b.right H E _ _ h2 hok.2.1
    obtain ⟨k1, k2⟩ := c.right H E _ _ h3 hok.2.2.1
    exact ⟨by simp only [SV.denL, i1, j1, k1], i2, j2, k2, trivial⟩
   ·cases h
  ·cases h

def Rd1.four {α β γ δ : Type} (a : Rd1 α) (b : Rd1 β) (c : Rd1 γ) (d : Rd1 δ) : Rd (α × β × γ × δ) where
 read l := match l with
  | [x, y, z, u] => match a.read x, b.read y, c.read z, d.read u with
   | some p, some q, some r, some s => some (p, q, r, s)
   | _, _, _, _ => none
  | _ => none
 canon p := [a.canon p.1, b.canon p.2.1, c.canon p.2.2.1, d.canon p.2.2.2]
 right H E args p h hok := by
  split at h
  ·split at h
   ·rename_i h1 h2 h3 h4
    cases h
    obtain ⟨i1, i2⟩ := a.right H E _ _ h1 hok.1
    obtain ⟨j1, j2⟩ := b.right H E _ _ h2 hok.2.1
    obtain ⟨k1, k2⟩ := c.right H E _ _ h3 hok.2.2.1
    obtain ⟨l1, l2⟩ := d.right H E _ _ h4 hok.2.2.2.1
    exact ⟨by simp only [SV.denL, i1, j1, k1, l1], i2, j2, k2, l2, trivial⟩
   ·cases h
  ·cases h
def rdInt : Rd1 Int where
 read x := match x with | .int .i64 n => some n | _ => none
 canon n := .int .i64 n
 right H E x b h hok := by
  split at h
  ·cases h; exact ⟨rfl, trivial⟩
  ·cases h
def rdBool : Rd1 Bool where
 read x := match x with | .bool b => some b | .lb b => some b | _ => none
 canon b := .bool b
 right H E x b h hok := by
  split at h
  ·cases h; exact ⟨rfl, trivial⟩
  ·cases h; exact ⟨by simp [SV.den], trivial⟩
  ·cases h
def rdD : Rd1 D where
 read x := x.d?
 canon d := .dat d
 right H E x d h hok := by
  obtain ⟨h1, h2⟩ := SV.d?_spec (E := E) h hok
  refine ⟨by simpa [SV.den] using h1, h2, ?_⟩
  cases x <;> simp [SV.d?] at h
  ·subst h; exact ⟨_, _, _, rfl⟩
  ·subst h; exact hok.2
def RetS (w : World) (H : HV) (v : SV) : Value → World → Prop := fun u w' => ∃ H', After w H w' H' ∧ ∀ E, u = v.den E
def RetD (w : World) (H : HV) (g : (Nat → D) → SV) : Value → World → Prop := fun u w' => ∃ H', After w H w' H' ∧ ∃ ds, (∀ E, u = (g ds).den E) ∧ (g ds).Ok H'

section
variable {P : Program} {w : World} {H : HV}

theorem ret_S {v v' : SV} (h : ∀ E E', v.den E = v'.den E') : (Tree.ret v).holds P ⟨w, H⟩ (RetS w H v') :=
 fun E H' _ g _ => ⟨H', after_good g, fun E' => h E E'⟩

theorem ret_int {k : IntKind} {a b : Int} (h : a = b) : (Tree.ret (.int k a)).holds P ⟨w, H⟩ (RetS w H (.int k b)) := by
 subst h; exact ret_S fun _ _ => rfl

theorem ret_bool {a b : Bool} (h : a = b) : (Tree.ret (.bool a)).holds P ⟨w, H⟩ (RetS w H (.bool b)) := by
 subst h; exact ret_S fun _ _ => rfl

theorem ret_lb {a b : Bool} (h : a = b) : (Tree.ret (.lb a)).holds P ⟨w, H⟩ (RetS w H (.bool b)) := by
 subst h; exact ret_S fun _ _ => by simp [SV.den]

theorem ret_D {v : SV} {g : (Nat → D) → SV} (ds : Nat → D) (h : ∀ E E', v.den E = (g ds).den E') (hok : ∀ H', v.Ok H' → (g ds).Ok H') : (Tree.ret v).holds P ⟨w, H⟩ (RetD w H g) :=
 fun E H' _ gd hv => ⟨H', after_good gd, ds, fun E' => h E E', hok H' hv⟩

theorem StkRun.mono {R R' : Value → World → Prop} (hr : ∀ v w, R v w → R' v w) : ∀ {r : List CFrm} {c : CFrm} {w : World}, StkRun P c r w R → StkRun P c r w R'
 | [], _, _, h => CFrm.run_mono h hr
 | _ :: _, _, _, h => CFrm.run_mono h fun _ _ h' => StkRun.mono hr h'

theorem Runs.mono {C : Ctx} {c : Conf} {R R' : Value → World → Prop} (h : Runs P C c R) (hr : ∀ v w, R v w → R' v w) : Runs P C c R' :=
 fun E H w g ok => StkRun.mono hr (h E H w g ok)

theorem law_in {f : FuncId} {β : Type} (r : Rd β) {spec : β → SpecR} (hb : Bodied P f = true)
  (h : ∀ (H : HV) (w : World) (b : β), SV.OkL H (r.canon b) → match spec b with
   | .scalar ps v => (∀ p, p ∈ ps → p) → Runs P ⟨w, H⟩ (entry P f (r.canon b)) (RetS w H v)
   | .data ps g => (∀ p, p ∈ ps → p) → Runs P ⟨w, H⟩ (entry P f (r.canon b)) (RetD w H g)
   | .no => True) : Law P f (r.sp spec) := by
 refine ⟨hb, fun H E args hargs => ?_⟩
 unfold Rd.sp
 cases hr : r.read args with
 | none => trivial
 | some b =>
  simp only
  obtain ⟨h1, h2⟩ := r.right H E args b hr hargs
  rw [h1]
  cases hs : spec b with
  | no => trivial
  | scalar ps v =>
   intro hp
   refine pcall hb h2 E fun w => ?_
   have := h H w b h2
   rw [hs] at this
   exact (this hp).mono fun u w2 ⟨H2, ha, hu⟩ => ⟨H2, ha, hu E⟩
  | data ps g =>
   intro hp
   refine pcall hb h2 E fun w => ?_
   have := h H w b h2
   rw [hs] at this
   exact (this hp).mono fun u w2 ⟨H2, ha, ds, hu, hok⟩ => ⟨H2, ha, ds, hu E, hok⟩

@[simp] theorem holds_need {C : Ctx} {R : Value → World → Prop} {p : Prop} {t : Tree} : (Tree.need p t).holds P C R ↔ p ∧ t.holds P C R := Iff.rfl
@[simp] theorem holds_all {C : Ctx} {R : Value → World → Prop} {f : (Nat → Nat → D) → Tree} : (Tree.all f).holds P C R ↔ ∀ hs, (f hs).holds P C R := Iff.rfl
end

theorem wrap_succ {j n : Nat} (h : j < n) (hn : n ≤ 1048576) : IntKind.i64.wrap ((j : Int) + 1) = ((j + 1 : Nat) : Int) := by
 rw [wrap64 (by omega) (by omega)]; simp

theorem getD_lt {xs : List Int} {j : Nat} (h : j < xs.length) : xs.getD j 0 = xs[j] := by simp [h]

theorem take_has {xs : List Int} {j : Nat} (h : j < xs.length) (n : Int) : (xs.take (j + 1)).contains n = ((xs.take j).contains n || (xs[j] == n)) := by
 rw [List.take_succ_eq_append_getElem h]
 simp only [List.contains_eq_any_beq, List.any_append, List.any_cons, List.any_nil, Bool.or_false]
 congr 1
 exact Bool.beq_comm
theorem int_at {d : D} (hd : d.Is Int) {j : Nat} (hj : j < (d.to Int).length) :
  (0 ≤ (j : Int) ∧ (j : Int) < (d.len : Int) ∧ d.sz = 1) ∧ d.HasCell (Int.toNat j) 0 (.int .i64) ∧ d.getInt (Int.toNat j) 0 = (d.to Int)[j] := by
 obtain ⟨h1, h2⟩ := int_cell hd hj
 exact ⟨⟨by omega, by rw [D.Is.length (α := Int)]; omega, by rw [hd.size hj]; rfl⟩, h2, h1⟩

end Sx
end
