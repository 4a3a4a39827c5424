/- A region whose order is drawn, in the symbolic machine. -/
import Derived.Test.YtoechplbhbalaaaOstoOw
import Derived.ProofKit
import Derived.OpenShut
import Derived.Below
import Derived.Carry
import Derived.Deep.Slices
import Derived.ChangeOld
set_option linter.all false
section
namespace Sx
open Go RowKit

noncomputable def ordT (P : Program) (cs : Ctrs) (ih : Conf → Tree) (c : Conf) (ops : Array Oper) (ri : Option (Array Oper × List Nat)) (k : List Item) (depth : Nat) (hs : Nat → Nat → D) : Nat → List (Nat × Bool) → Tree
  | 0, _ => .stuck
  | n + 1, dec => match canonR P cs ops depth dec hs (List.range ops.size) (c.top.tmps, c.mem) with
    | .done s es => match checkR ops depth (masks ops.toList []) es s.2 with
      | true => needs (es.flatMap (·.ps)) (ih { c with top := { c.top with ri := ri, todo := k, tmps := s.1 }, mem := s.2 })
      | false => .stuck
    | .ask t b => .br b (ordT P cs ih c ops ri k depth hs n ((t, true) :: dec)) (ordT P cs ih c ops ri k depth hs n ((t, false) :: dec))
    | .bad => .stuck

/-- Keys that nobody names yet. -/
def depthFor (ops : Array Oper) (c : Conf) : Nat → Nat → Option Nat
  | 0, _ => none
  | n + 1, d => match checkS ops d (masks ops.toList []) (c.top.tmps, c.mem) c.rest with
    | true => some d
    | false => depthFor ops c n (d + 10)

/-- How many frames lie below. -/
def depthK {β : Type _} : List SFrm → Nat → (Nat → β) → β
  | [], n, k => k n
  | _ :: r, n, k => depthK r (n + 1) k
theorem depthK_eq {β : Type _} : ∀ (r : List SFrm) (n : Nat) (k : Nat → β), depthK r n k = k (n + r.length)
  | [], n, k => rfl
  | _ :: r, n, k => by simp only [depthK, depthK_eq r, List.length_cons]; congr 1; omega

/-- Does an element's address lie in this slot? -/
def isElt (ops : Array Oper) (x : Operand) : Bool :=
  match x with
  | .tmp t => ops.toList.any fun o => match o.dst with
    | some d => d == t && (match o.op with
      | .indexAddr .. => true
      | _ => false)
    | none => false
  | _ => false

/-- The first call that no contract tells of, or the first store into an element. -/
def bareCall (cs : Ctrs) (ops : Array Oper) : List Oper → Nat → Option Nat
  | [], _ => none
  | o :: r, n => match o.op with
    | .call c => match c.callee with
      | .value (.func f) => match cs.find f with
        | none => some n
        | some _ => bareCall cs ops r (n + 1)
      | _ => bareCall cs ops r (n + 1)
    | .store _ a _ => match isElt ops a with
      | true => some n
      | false => bareCall cs ops r (n + 1)
    | _ => bareCall cs ops r (n + 1)

noncomputable def drawC (P : Program) (cs : Ctrs) (ih : Conf → Tree) (c : Conf) (ops : Array Oper) (k : List Item) : Tree :=
  match P.follows .mixedOrders && Region.noSelect ops with
  | true => match bareCall cs ops ops.toList 0 with
    | none => depthK c.rest 1 fun d => match depthFor ops c 40 d with
      | some depth => .all fun hs => ordT P cs ih c ops none k depth hs 12 []
      | none => .stuck
    | some n => match forcedR ops n with
      | true => natF n fun n => depthK c.rest 1 fun d => match depthFor (ops.extract 0 n) c 40 d with
        | some depth => .all fun hs => ordT P cs ih c (ops.extract 0 n) (some (ops, List.range' n (ops.size - n))) k depth hs 12 []
        | none => .stuck
      | false => match floatR ops n with
        | true => natF n fun n => depthK c.rest 1 fun d => match depthFor (ops.extract 0 n) c 40 d with
          | some depth => match depthFor (opsF ops n) c 40 d with
            | some depth' => .all fun h => .br (D.isNil (h 0 0)) (.all fun hs => ordT P cs ih c (ops.extract 0 n) (some (ops, List.range' n (ops.size - n))) k depth hs 12 [])
                (.all fun hs => ordT P cs ih c (opsF ops n) (some (ops, n :: List.range' (n + 2) (ops.size - (n + 2)))) k depth' hs 12 [])
            | none => .stuck
          | none => .stuck
        | false => .stuck
  | false => .stuck

section
variable {P : Program} {C : Ctx} {cs : Ctrs}

theorem depthFor_spec {ops : Array Oper} {c : Conf} : ∀ {n d depth : Nat}, depthFor ops c n d = some depth → checkS ops depth (masks ops.toList []) (c.top.tmps, c.mem) c.rest = true
  | 0, _, _, h => by cases h
  | n + 1, d, depth, h => by
    simp only [depthFor] at h
    split at h
    · rename_i hc; cases h; exact hc
    · exact depthFor_spec h

theorem ordT_sound {R : Value → World → Prop} {ih : Conf → Tree} (hih : ∀ c, (ih c).holds P C R → Runs P C c R) {c : Conf} {ops : Array Oper} {ri : Option (Array Oper × List Nat)} {k : List Item} {depth : Nat} {hs : Nat → Nat → D} :
    ∀ {n : Nat} {dec : List (Nat × Bool)}, (ordT P cs ih c ops ri k depth hs n dec).holds P C R →
      Chk P cs ops depth (c.top.tmps, c.mem) hs fun s => Runs P C ⟨⟨c.top.fn, ri, c.top.await, k, s.1⟩, c.rest, s.2⟩ R
  | 0, _, h => h.elim
  | n + 1, dec, h => by
    simp only [ordT] at h
    split at h
    · rename_i s es hc
      split at h
      · rename_i hk
        obtain ⟨h1, h2⟩ := needs_holds h
        exact chk_of hc hk (fun e he p hp => h1 p (List.mem_flatMap.2 ⟨e, he, hp⟩)) (hih _ h2)
      · exact h.elim
    · rename_i t b hc
      cases b with
      | true => exact ordT_sound hih (h.1 rfl)
      | false => exact ordT_sound hih (h.2 rfl)
    · exact h.elim

theorem drawC_sound (hcs : cs.Ok P) {R : Value → World → Prop} {ih : Conf → Tree} (hih : ∀ c, (ih c).holds P C R → Runs P C c R) {f : FuncId} {aw : Option Tmp} {id : Nat} {ops : Array Oper} {k : List Item}
    {tmps : List SV} {rest : List SFrm} {mem : Mem}
    (h : (drawC P cs ih ⟨⟨f, none, aw, .code (.region id ops true) :: k, tmps⟩, rest, mem⟩ ops k).holds P C R) : Runs P C ⟨⟨f, none, aw, .code (.region id ops true) :: k, tmps⟩, rest, mem⟩ R := by
  unfold drawC at h
  split at h
  · rename_i hc
    simp only [Bool.and_eq_true] at hc
    obtain ⟨hm, hsel⟩ := hc
    split at h
    · rw [depthK_eq] at h
      split at h
      · rename_i depth hd
        obtain ⟨c1, c2⟩ := checkS_spec (depthFor_spec hd)
        have hchk : ∀ hs, Chk P cs ops depth (tmps, mem) hs fun s => Runs P C ⟨⟨f, none, aw, k, s.1⟩, rest, s.2⟩ R := fun hs => ordT_sound hih (h hs)
        intro E H w g ok
        rw [stkRun_eq]
        simp only [SFrm.den, CFrm.run]
        refine Go1.code (wp_region_any hm ?_)
        have gd := g.drew
        exact ord_sound (ri := none) (aw := aw) hcs hchk c1 c2 ops.size [] (Array.replicate ops.size false) [] (fun _ _ => default) (fun _ => ⟨[], .undef, [], none, none, none, none⟩) E H w.drew (by simp) .nil (by simp) (fun j hj => by simp [hj]) trivial
          (by simp) gd ok.1 ok.2 rfl
      · exact h.elim
    · rename_i n hb
      split at h
      · rename_i hf
        rw [natF_eq, depthK_eq] at h
        split at h
        · rename_i depth hd
          obtain ⟨c1, c2⟩ := checkS_spec (depthFor_spec hd)
          have hn := (forcedR_spec hf).1
          have hsz : (ops.extract 0 n).size = n := by simp; omega
          have hchk : ∀ hs, Chk P cs (ops.extract 0 n) depth (tmps, mem) hs fun s => Runs P C ⟨⟨f, some (ops, List.range' n (ops.size - n)), aw, k, s.1⟩, rest, s.2⟩ R := fun hs => ordT_sound hih (h hs)
          intro E H w g ok
          rw [stkRun_eq]
          simp only [SFrm.den, CFrm.run]
          refine Go1.code (wp_region_any hm ?_)
          have gd := g.drew
          have key := ord_sound (E0 := E) (ri := some (ops, List.range' n (ops.size - n))) (aw := aw) hcs hchk c1 c2 (ops.extract 0 n).size [] (Array.replicate n false) [] (fun _ _ => default) (fun _ => ⟨[], .undef, [], none, none, none, none⟩) E H w.drew (by simp) .nil (by simp; omega)
            (fun j hj => by have : j < n := by omega
                            simp [this]) trivial (by simp) gd ok.1 ok.2 rfl
          rw [hsz] at key
          have := wpAny_head (Q := Qk P f k (restOf P (rest.map (SFrm.den E)) R)) hf (Q' := Qi P f (some (ops, List.range' n (ops.size - n))) aw k (restOf P (rest.map (SFrm.den E)) R)) (fun e a w h => h.1) (fun a w h => h.2)
            n [] (Array.replicate n false) (Array.replicate ops.size false) _ w.drew (by simp) .nil (by simp) (by simp) (fun j hj => by simp [hj]) (by simp) (fun j hj => by simp [hj]) key
          rw [show n + (ops.size - n) = ops.size by omega] at this
          exact this
        · exact h.elim
      · split at h
        · rename_i hf
          rw [natF_eq, depthK_eq] at h
          split at h
          · rename_i depth hd
            split at h
            · rename_i depth' hd'
              obtain ⟨c1, c2⟩ := checkS_spec (depthFor_spec hd)
              obtain ⟨c1', c2'⟩ := checkS_spec (depthFor_spec hd')
              have hn := (floatR_spec hf).1
              have hsz : (ops.extract 0 n).size = n := by simp; omega
              have hszF := opsF_size (ops := ops) hn
              -- what is not looked at in one of the two arms may be changed
              have hchkB : ∀ hs, Chk P cs (ops.extract 0 n) depth (tmps, mem) hs fun s => Runs P C ⟨⟨f, some (ops, List.range' n (ops.size - n)), aw, k, s.1⟩, rest, s.2⟩ R := fun hs =>
                ordT_sound hih ((h fun _ _ => .slc none 0 []).1 rfl hs)
              have hchkA : ∀ hs, Chk P cs (opsF ops n) depth' (tmps, mem) hs fun s => Runs P C ⟨⟨f, some (ops, n :: List.range' (n + 2) (ops.size - (n + 2))), aw, k, s.1⟩, rest, s.2⟩ R := fun hs =>
                ordT_sound hih ((h fun _ _ => .slc (some (⟨0, 0, none⟩, 0)) 0 []).2 rfl hs)
              intro E H w g ok
              rw [stkRun_eq]
              simp only [SFrm.den, CFrm.run]
              refine Go1.code (wp_region_any hm ?_)
              have gd := g.drew
              have keyB := ord_sound (E0 := E) (ri := some (ops, List.range' n (ops.size - n))) (aw := aw) hcs hchkB c1 c2 (ops.extract 0 n).size [] (Array.replicate n false) [] (fun _ _ => default) (fun _ => ⟨[], .undef, [], none, none, none, none⟩) E H w.drew (by simp) .nil (by simp; omega)
                (fun j hj => by have : j < n := by omega
                                simp [this]) trivial (by simp) gd ok.1 ok.2 rfl
              have keyA := ord_sound (E0 := E) (ri := some (ops, n :: List.range' (n + 2) (ops.size - (n + 2)))) (aw := aw) hcs hchkA c1' c2' (opsF ops n).size [] (Array.replicate (n + 1) false) [] (fun _ _ => default) (fun _ => ⟨[], .undef, [], none, none, none, none⟩) E H w.drew (by simp) .nil (by rw [hszF]; simp)
                (fun j hj => by have : j < n + 1 := by omega
                                simp [this]) trivial (by simp) gd ok.1 ok.2 rfl
              rw [hsz] at keyB
              rw [hszF] at keyA
              have := wpAny_float (Q := Qk P f k (restOf P (rest.map (SFrm.den E)) R)) hf
                (QA := Qi P f (some (ops, n :: List.range' (n + 2) (ops.size - (n + 2)))) aw k (restOf P (rest.map (SFrm.den E)) R)) (QB := Qi P f (some (ops, List.range' n (ops.size - n))) aw k (restOf P (rest.map (SFrm.den E)) R))
                (fun e a w h => h.1) (fun e a w h => h.1) (fun a w h => h.2) (fun a w h => h.2)
                n [] (Array.replicate (n + 1) false) (Array.replicate n false) (Array.replicate ops.size false) _ w.drew (by simp) .nil (by simp) (by simp) (fun j hj => by
                  have : j < n + 1 := by omega
                  simp [this]) (by simp) (by simp) (fun j hj => by simp [hj]) (by simp) (fun j hj => by simp [hj]) keyA keyB
              rw [show n + (ops.size - n) = ops.size by omega] at this
              exact this
            · exact h.elim
          · exact h.elim
        · exact h.elim
  · exact h.elim
end
end Sx
end
section
/- Keys are numbered anew; an empty slice is a row of one's own. -/
namespace Sx
open Go RowKit

mutual
def SV.ren (ρ : Nat → Nat) : SV → SV
  | .vec k => .vec (ρ k)
  | .ptr k o => .ptr (ρ k) o
  | .velt k s i j => .velt (ρ k) s i j
  | .mapp k => .mapp (ρ k)
  | .agg l => .agg (SV.renL ρ l)
  | .tup l => .tup (SV.renL ρ l)
  | .fn f a c => .fn f (SV.renL ρ a) (SV.renL ρ c)
  | .int k n => .int k n
  | .bool b => .bool b
  | .lb b => .lb b
  | .str s => .str s
  | .nils => .nils
  | .dat d => .dat d
  | .elt d i j => .elt d i j
  | .nilp => .nilp
  | .nilf => .nilf
  | .undef => .undef
  | .junk i => .junk i
  | .raw v => .raw v
def SV.renL (ρ : Nat → Nat) : List SV → List SV
  | [] => []
  | x :: r => SV.ren ρ x :: SV.renL ρ r
end

def OBlk.ren (ρ : Nat → Nat) : OBlk → OBlk
  | .cells t cs => .cells t (SV.renL ρ cs)
  | .map es => .map (es.map fun e => (e.1.ren ρ, e.2.ren ρ))
  | .arr e d => .arr e d
  | .pub d => .pub d

def Ren (ρ : Nat → Nat) (E E' : Env) (k : Nat) : Prop := E'.b (ρ k) = E.b k ∧ E'.v (ρ k) = E.v k

mutual
theorem SV.den_ren {ρ : Nat → Nat} {E E' : Env} (hj : E'.j = E.j) : ∀ x : SV, (∀ k, k ∈ x.keys → Ren ρ E E' k) → (x.ren ρ).den E' = x.den E
  | .vec k, h => by simp only [SV.ren, SV.den, (h k (by simp [SV.keys])).2]
  | .ptr k _, h => by simp only [SV.ren, SV.den, (h k (by simp [SV.keys])).1]
  | .velt k _ _ _, h => by simp only [SV.ren, SV.den, (h k (by simp [SV.keys])).1]
  | .mapp k, h => by simp only [SV.ren, SV.den, (h k (by simp [SV.keys])).1]
  | .agg l, h => by simp only [SV.ren, SV.den, SV.denL_ren hj l (by simpa [SV.keys] using h)]
  | .tup l, h => by simp only [SV.ren, SV.den, SV.denL_ren hj l (by simpa [SV.keys] using h)]
  | .fn _ a c, h => by
    simp only [SV.keys, List.mem_append] at h
    simp only [SV.ren, SV.den, SV.denL_ren hj a (fun k hk => h k (.inl hk)), SV.denL_ren hj c (fun k hk => h k (.inr hk))]
  | .int .., _ => by simp [SV.ren, SV.den]
  | .bool _, _ => by simp [SV.ren, SV.den]
  | .lb _, _ => by simp [SV.ren, SV.den]
  | .str _, _ => by simp [SV.ren, SV.den]
  | .nils, _ => by simp [SV.ren, SV.den]
  | .dat _, _ => by simp [SV.ren, SV.den]
  | .elt .., _ => by simp [SV.ren, SV.den]
  | .nilp, _ => by simp [SV.ren, SV.den]
  | .nilf, _ => by simp [SV.ren, SV.den]
  | .undef, _ => by simp [SV.ren, SV.den]
  | .junk _, _ => by simp [SV.ren, SV.den, hj]
  | .raw _, _ => by simp [SV.ren, SV.den]
theorem SV.denL_ren {ρ : Nat → Nat} {E E' : Env} (hj : E'.j = E.j) : ∀ l : List SV, (∀ k, k ∈ SV.keysL l → Ren ρ E E' k) → SV.denL E' (SV.renL ρ l) = SV.denL E l
  | [], _ => by simp [SV.renL, SV.denL]
  | x :: r, h => by
    simp only [SV.keysL, List.mem_append] at h
    simp only [SV.renL, SV.denL, SV.den_ren hj x (fun k hk => h k (.inl hk)), SV.denL_ren hj r (fun k hk => h k (.inr hk))]
end

mutual
theorem SV.ok_ren {ρ : Nat → Nat} {H : HV} : ∀ x : SV, x.Ok H → (x.ren ρ).Ok H
  | .dat _, h => by simpa only [SV.ren, SV.Ok] using h
  | .elt .., h => by simpa only [SV.ren, SV.Ok] using h
  | .agg l, h => by simp only [SV.ren, SV.Ok] at h ⊢; exact SV.okL_ren l h
  | .tup l, h => by simp only [SV.ren, SV.Ok] at h ⊢; exact SV.okL_ren l h
  | .fn _ a c, h => by simp only [SV.ren, SV.Ok] at h ⊢; exact ⟨SV.okL_ren a h.1, SV.okL_ren c h.2⟩
  | .int .., _ => by simp [SV.ren, SV.Ok]
  | .bool _, _ => by simp [SV.ren, SV.Ok]
  | .lb _, _ => by simp [SV.ren, SV.Ok]
  | .str _, _ => by simp [SV.ren, SV.Ok]
  | .nils, _ => by simp [SV.ren, SV.Ok]
  | .vec _, _ => by simp [SV.ren, SV.Ok]
  | .ptr .., _ => by simp [SV.ren, SV.Ok]
  | .velt .., _ => by simp [SV.ren, SV.Ok]
  | .nilp, _ => by simp [SV.ren, SV.Ok]
  | .nilf, _ => by simp [SV.ren, SV.Ok]
  | .mapp _, _ => by simp [SV.ren, SV.Ok]
  | .undef, _ => by simp [SV.ren, SV.Ok]
  | .junk _, _ => by simp [SV.ren, SV.Ok]
  | .raw _, _ => by simp [SV.ren, SV.Ok]
theorem SV.okL_ren {ρ : Nat → Nat} {H : HV} : ∀ l : List SV, SV.OkL H l → SV.OkL H (SV.renL ρ l)
  | [], _ => by simp [SV.renL, SV.OkL]
  | x :: r, h => by simp only [SV.renL, SV.OkL] at h ⊢; exact ⟨SV.ok_ren x h.1, SV.okL_ren r h.2⟩
end

theorem OOk.ren {C : Ctx} {ρ : Nat → Nat} {E E' : Env} {H : HV} {w : World} {k : Nat} {o : OBlk} (hj : E'.j = E.j) (h : OOk C E H w k o) (hk : Ren ρ E E' k) (ho : ∀ j, j ∈ o.keys → Ren ρ E E' j)
    (hinj : ∀ es, o = .map es → KeysOk es → KeysOk (es.map fun e => (e.1.ren ρ, e.2.ren ρ))) : OOk C E' H w (ρ k) (o.ren ρ) := by
  obtain ⟨k1, k2⟩ := hk
  cases o with
  | cells t cs =>
    obtain ⟨a, b, c, d⟩ := h
    exact ⟨by rw [k1]; exact a, by rw [k1, SV.denL_ren hj cs ho]; exact b, by rw [k1]; exact c, SV.okL_ren cs d⟩
  | pub d => exact ⟨by rw [k2]; exact h.1, h.2⟩
  | map es =>
    obtain ⟨a, b, ⟨en, cl, hh, hm⟩, c, d⟩ := h
    refine ⟨by rw [k1]; exact a, by rw [k1]; exact b, ⟨en, cl, by rw [k1]; exact hh, hm.trans (List.Perm.of_eq ?_)⟩, ?_, hinj es rfl d⟩
    · rw [List.map_map]
      apply List.map_congr_left
      intro e he
      simp only [OBlk.keys, List.mem_flatMap, List.mem_append] at ho
      simp only [Function.comp, SV.den_ren hj e.1 (fun j hj => ho j ⟨e, he, .inl hj⟩), SV.den_ren hj e.2 (fun j hj => ho j ⟨e, he, .inr hj⟩)]
    · intro e he
      obtain ⟨x, hx, rfl⟩ := List.mem_map.1 he
      exact ⟨SV.ok_ren _ (c x hx).1, SV.ok_ren _ (c x hx).2⟩
  | arr e d =>
    obtain ⟨hd, sz, rows, rfl, hv, how, hl, hk2, hx⟩ := h
    exact ⟨hd, sz, rows, rfl, by rw [k2]; exact hv, how, hl, hk2, fun a c hc => by
      obtain ⟨p, q⟩ := hx a c hc
      exact ⟨by rw [k1]; exact p, by rw [k1]; exact q⟩⟩

theorem keysOk_ren {ρ : Nat → Nat} {es : List (SV × SV)} (h : KeysOk es) : KeysOk (es.map fun e => (e.1.ren ρ, e.2.ren ρ)) := by
  refine ⟨fun e he => ?_, ?_⟩
  · obtain ⟨x, hx, rfl⟩ := List.mem_map.1 he
    obtain ⟨k, n, hk⟩ := h.1 x hx
    exact ⟨k, n, by simp [hk, SV.ren]⟩
  · rw [List.pairwise_map]
    refine h.2.imp_of_mem ?_
    intro a b ha hb hne
    obtain ⟨k, n, hk⟩ := h.1 a ha
    obtain ⟨k', n', hk'⟩ := h.1 b hb
    rw [hk, hk'] at hne
    simpa [hk, hk', SV.ren] using hne

/-- The keys in the order in which they are met. -/
def meet : List Nat → List Nat → List Nat
  | acc, [] => acc
  | acc, k :: r => match acc.contains k with
    | true => meet acc r
    | false => meet (acc ++ [k]) r

def idxOf (k : Nat) : Nat → List Nat → Nat
  | n, [] => n
  | n, x :: r => match Nat.beq x k with
    | true => n
    | false => idxOf k (n + 1) r

theorem meet_mem {k : Nat} : ∀ {l acc : List Nat}, k ∈ acc ∨ k ∈ l → k ∈ meet acc l
  | [], acc, h => by simpa [meet] using h
  | x :: r, acc, h => by
    simp only [meet]
    split
    · rename_i hx
      refine meet_mem ?_
      rcases h with h | h
      · exact .inl h
      · rcases List.mem_cons.1 h with rfl | h
        · exact .inl (by simpa using hx)
        · exact .inr h
    · refine meet_mem ?_
      rcases h with h | h
      · exact .inl (List.mem_append_left _ h)
      · rcases List.mem_cons.1 h with rfl | h
        · exact .inl (by simp)
        · exact .inr h

theorem idxOf_spec {k : Nat} : ∀ {l : List Nat} {n : Nat}, k ∈ l → ∃ i, idxOf k n l = n + i ∧ l[i]? = some k
  | [], _, h => by cases h
  | x :: r, n, h => by
    simp only [idxOf]
    cases hx : Nat.beq x k with
    | true => exact ⟨0, by simp, by simp [Nat.eq_of_beq_eq_true hx]⟩
    | false =>
      have hne : x ≠ k := fun e => by subst e; rw [Nat.beq_refl] at hx; cases hx
      rcases List.mem_cons.1 h with h | h
      · exact absurd h.symm hne
      · obtain ⟨i, h1, h2⟩ := idxOf_spec (n := n + 1) h
        exact ⟨i + 1, by simp only; omega, by simpa using h2⟩

/-- The keys that the blocks of the keys name, and so on. -/
def walkK (m : Mem) : Nat → Nat → List Nat → List Nat
  | 0, _, acc => acc
  | n + 1, i, acc => match acc[i]? with
    | none => acc
    | some k => walkK m n (i + 1) (meet acc (match m.get k with | some o => o.keys | none => []))

theorem walkK_mem {m : Mem} {k : Nat} : ∀ {n i : Nat} {acc : List Nat}, k ∈ acc → k ∈ walkK m n i acc
  | 0, _, _, h => h
  | n + 1, i, acc, h => by
    simp only [walkK]
    split
    · exact h
    · exact walkK_mem (meet_mem (.inl h))

def Conf.allKeys (c : Conf) : List Nat :=
  meet (walkK c.mem (c.mem.length + 4) 0 (meet [] (SV.keysL c.top.tmps ++ (c.rest.flatMap fun f => SV.keysL f.tmps)))) (Mem.named c.mem)

def renWith (ρ : Nat → Nat) (c : Conf) : Conf :=
  ⟨{ c.top with tmps := SV.renL ρ c.top.tmps }, c.rest.map fun f => { f with tmps := SV.renL ρ f.tmps }, c.mem.map fun e => (ρ e.1, e.2.ren ρ)⟩

/-- The entries in the order of their keys. -/
def insM (x : Nat × OBlk) : Mem → Mem
  | [] => [x]
  | y :: r => match Nat.ble x.1 y.1 with
    | true => x :: y :: r
    | false => y :: insM x r

def sortM : Mem → Mem
  | [] => []
  | x :: r => insM x (sortM r)

theorem insM_perm (x : Nat × OBlk) : ∀ m : Mem, (insM x m).Perm (x :: m)
  | [] => List.Perm.refl _
  | y :: r => by
    simp only [insM]
    split
    · exact List.Perm.refl _
    · exact ((insM_perm x r).cons y).trans (List.Perm.swap _ _ _)

theorem sortM_perm : ∀ m : Mem, (sortM m).Perm m
  | [] => List.Perm.refl _
  | x :: r => (insM_perm x _).trans ((sortM_perm r).cons x)

theorem Good.perm {C : Ctx} {m m' : Mem} {E : Env} {H : HV} {w : World} (g : Good C m E H w) (h : m'.Perm m) : Good C m' E H w :=
  ⟨g.below, g.ext, g.fresh, g.cell, fun k o hk => g.own k o (h.subset hk), (h.pairwise_iff (fun {a b} (h : a.1 ≠ b.1) => h.symm)).2 g.keys, fun x y hx hy => g.apart x y (h.subset hx) (h.subset hy)⟩

def sortC (c : Conf) : Conf := { c with mem := sortM c.mem }

theorem sortC_sound {P : Program} {C : Ctx} {R : Value → World → Prop} {c : Conf} (h : Runs P C (sortC c) R) : Runs P C c R :=
  fun E H w g ok => h E H w (g.perm (sortM_perm _)) ok

/-- The keys are numbered anew. -/
def renC (c : Conf) : Conf := renWith (fun k => idxOf k 0 c.allKeys) c

/-- At the head of a loop. -/
noncomputable def headC {β : Type _} (P : Program) (c : Conf) (k : Conf → β) : β := nz (renC (fgt P c)) fun c => nz (sortC c) k

theorem renC_sound {P : Program} {C : Ctx} {R : Value → World → Prop} {c : Conf} (h : Runs P C (renC c) R) : Runs P C c R := by
  intro E H w g ok
  have spec : ∀ k, k ∈ c.allKeys → ∃ i, idxOf k 0 c.allKeys = i ∧ c.allKeys[i]? = some k := fun k hk => by
    obtain ⟨i, h1, h2⟩ := idxOf_spec (n := 0) hk
    exact ⟨i, by omega, h2⟩
  have all : ∀ k, k ∈ SV.keysL c.top.tmps ∨ (∃ f, f ∈ c.rest ∧ k ∈ SV.keysL f.tmps) ∨ k ∈ Mem.named c.mem → k ∈ c.allKeys := fun k hk => by
    rcases hk with hk | ⟨f, hf, hk⟩ | hk
    · exact meet_mem (.inl (walkK_mem (meet_mem (.inr (List.mem_append_left _ hk)))))
    · exact meet_mem (.inl (walkK_mem (meet_mem (.inr (List.mem_append_right _ (List.mem_flatMap.2 ⟨f, hf, hk⟩))))))
    · exact meet_mem (.inr hk)
  let E' : Env := ⟨fun i => E.b (c.allKeys.getD i 0), fun i => E.v (c.allKeys.getD i 0), E.j⟩
  let ρ : Nat → Nat := fun k => idxOf k 0 c.allKeys
  have ren : ∀ k, k ∈ c.allKeys → Ren ρ E E' k := fun k hk => by
    obtain ⟨i, h1, h2⟩ := spec k hk
    simp only [Ren, E', ρ, h1, List.getD_eq_getElem?_getD, h2, Option.getD_some, and_self]
  have inj : ∀ k j, k ∈ c.allKeys → j ∈ c.allKeys → ρ k = ρ j → k = j := fun k j hk hj e => by
    obtain ⟨i, h1, h2⟩ := spec k hk
    obtain ⟨i', h1', h2'⟩ := spec j hj
    simp only [ρ, h1, h1'] at e
    subst e
    rw [h2] at h2'
    exact Option.some.inj h2'
  have named : ∀ k o, (k, o) ∈ c.mem → k ∈ c.allKeys ∧ ∀ j, j ∈ o.keys → j ∈ c.allKeys := fun k o hm => by
    refine ⟨all k (.inr (.inr ?_)), fun j hj => all j (.inr (.inr ?_))⟩
    · simp only [Mem.named, List.mem_flatMap]; exact ⟨_, hm, List.mem_cons_self⟩
    · simp only [Mem.named, List.mem_flatMap]; exact ⟨_, hm, List.mem_cons_of_mem _ hj⟩
  have gd : Good C (c.mem.map fun e => (ρ e.1, e.2.ren ρ)) E' H w := by
    refine ⟨g.below, g.ext, g.fresh, g.cell, fun k o hko => ?_, ?_, fun x y hx hy hne hlx hly => ?_⟩
    · obtain ⟨e, he, h1⟩ := List.mem_map.1 hko
      simp only [Prod.mk.injEq] at h1
      obtain ⟨rfl, rfl⟩ := h1
      obtain ⟨n1, n2⟩ := named e.1 e.2 he
      exact (g.own e.1 e.2 he).ren (E' := E') (show E'.j = E.j from rfl) (ren _ n1) (fun j hj => ren j (n2 j hj)) (fun es _ hk => keysOk_ren hk)
    · rw [List.pairwise_map]
      refine g.keys.imp_of_mem ?_
      intro a b ha hb hne e
      exact hne (inj _ _ (named a.1 a.2 ha).1 (named b.1 b.2 hb).1 e)
    · obtain ⟨a, ha, h1⟩ := List.mem_map.1 hx
      obtain ⟨b, hb, h2⟩ := List.mem_map.1 hy
      subst h1; subst h2
      simp only at hne hlx hly ⊢
      rw [(ren a.1 (named a.1 a.2 ha).1).1, (ren b.1 (named b.1 b.2 hb).1).1]
      have lies : ∀ o : OBlk, (o.ren ρ).Lies → o.Lies := fun o h => by cases o <;> exact h
      exact g.apart a b ha hb (fun e => hne (by rw [e])) (lies _ hlx) (lies _ hly)
  have hr := h E' H w gd ⟨SV.okL_ren _ ok.1, fun f hf => by
    obtain ⟨f', hf', rfl⟩ := List.mem_map.1 hf
    exact SV.okL_ren _ (ok.2 f' hf')⟩
  have e1 : (renC c).top.den E' = c.top.den E := by
    simp only [renC, renWith, SFrm.den]
    rw [SV.denL_ren (E := E) (E' := E') rfl _ fun k hk => ren k (all k (.inl hk))]
  have e2 : (renC c).rest.map (SFrm.den E') = c.rest.map (SFrm.den E) := by
    simp only [renC, renWith, List.map_map]
    apply List.map_congr_left
    intro f hf
    simp only [Function.comp, SFrm.den]
    rw [SV.denL_ren (E := E) (E' := E') rfl _ fun k hk => ren k (all k (.inr (.inl ⟨f, hf, hk⟩)))]
  rw [e1, e2] at hr
  exact hr

theorem headC_sound {P : Program} {C : Ctx} {R : Value → World → Prop} {c : Conf} (h : (headC P c Tree.leaf).holds P C R) : Runs P C c R := by
  simp only [headC, nz_eq] at h
  exact fgt_sound (renC_sound (sortC_sound h))

/-! An empty slice is a row of one's own. -/

/-- The cell of a block (or, without a block, the slot) that holds the nil slice now holds a row of one's own, which is empty. -/
def vecIn (K : Nat) (e : TypeId) (sz : Nat) (blk : Option Nat) (off : Nat) (c : Conf) : Option Conf :=
  match c.fresh K with
  | false => none
  | true => match blk with
    | none => match c.top.tmps[off]? with
      | some .nils => some ⟨{ c.top with tmps := c.top.tmps.set off (.vec K) }, c.rest, (K, .arr e (.slc none sz [])) :: c.mem⟩
      | _ => none
    | some b => match c.mem.get b with
      | some (.cells t cs) => match cs[off]? with
        | some .nils => some ⟨c.top, c.rest, (K, .arr e (.slc none sz [])) :: c.mem.set b (.cells t (cs.set off (.vec K)))⟩
        | _ => none
      | _ => none

theorem denL_setVec {E : Env} {K : Nat} {l : List SV} {i : Nat} (h : l[i]? = some .nils) (hv : E.v K = (none, 0)) : SV.denL E (l.set i (.vec K)) = SV.denL E l := by
  rw [denL_set, SV.denL_eq]
  apply List.ext_getElem?
  intro j
  by_cases hj : j = i
  · subst hj
    rw [List.getElem?_set_self (by have := (List.getElem?_eq_some_iff.1 h).1; simpa using this)]
    simp [h, SV.den, hv, hval]
  · rw [List.getElem?_set_ne (Ne.symm hj)]

theorem vecIn_sound {P : Program} {C : Ctx} {R : Value → World → Prop} {K : Nat} {e : TypeId} {sz : Nat} {blk : Option Nat} {off : Nat} {c c' : Conf} (hc : vecIn K e sz blk off c = some c') (h : Runs P C c' R) : Runs P C c R := by
  intro E H w g ok
  unfold vecIn at hc
  split at hc
  · cases hc
  · rename_i hf
    obtain ⟨f1, f2, f3⟩ := fresh_spec hf
    have ha := E.agree_setV K 0 (none, 0)
    have hv : (E.setV K 0 (none, 0)).v K = (none, 0) := by simp [Env.setV]
    have cons : ∀ {m : Mem}, Good C m E H w → Mem.has K m = false → Good C ((K, .arr e (.slc none sz [])) :: m) (E.setV K 0 (none, 0)) H w := fun {m} gm hm =>
      Good.cons gm hm ha (Below.refl _ _) ⟨_, _, _, rfl, hv, ⟨by simp [flat], .inl ⟨rfl, rfl⟩⟩, by simp, by simp, by simp⟩ (fun hl => by simp [OBlk.Lies, D.hd] at hl)
    have hrest : c.rest.map (SFrm.den (E.setV K 0 (none, 0))) = c.rest.map (SFrm.den E) := rest_agree ha f3
    split at hc
    · split at hc
      · rename_i hn
        cases hc
        have hr := h (E.setV K 0 (none, 0)) H w (cons g f1) ⟨okL_putS (dst := some off) ok.1 (by simp [SV.Ok]), ok.2⟩
        simp only at hr
        rw [hrest] at hr
        have e1 : SFrm.den (E.setV K 0 (none, 0)) { c.top with tmps := c.top.tmps.set off (.vec K) } = c.top.den E := by
          simp only [SFrm.den]
          rw [denL_setVec hn hv, SV.denL_agree ha _ f2]
        rw [e1] at hr
        exact hr
      · cases hc
    · rename_i b
      split at hc
      · rename_i t cs hg
        split at hc
        · rename_i hn
          cases hc
          -- the block holds what it held
          have hmem := Mem.get_mem hg
          have g1 := cons g f1
          have hkb : b ≠ K := fun e => (Mem.has_key f1 _ hmem).1 (by rw [e])
          have hcs : SV.hasL K cs = false := (Mem.has_key f1 _ hmem).2
          have g2 : Good C ((K, .arr e (.slc none sz [])) :: c.mem.set b (.cells t (cs.set off (.vec K)))) (E.setV K 0 (none, 0)) H w := by
            have hspec := Mem.set_spec (o' := .cells t (cs.set off (.vec K))) g.keys hg
            refine ⟨g1.below, g1.ext, g1.fresh, g1.cell, fun k o hko => ?_, ?_, fun x y hx hy hne hlx hly => ?_⟩
            · rcases List.mem_cons.1 hko with hk | hk
              · exact g1.own k o (by rw [hk]; exact List.mem_cons_self)
              · rcases hspec k o hk with ⟨rfl, rfl⟩ | ⟨hne, hm⟩
                · obtain ⟨a1, a2, a3, a4⟩ := g1.own k _ (List.mem_cons_of_mem _ hmem)
                  exact ⟨a1, by rw [denL_setVec hn hv]; exact a2, a3, okL_putS (dst := some off) a4 (by simp [SV.Ok])⟩
                · exact g1.own k o (List.mem_cons_of_mem _ hm)
            · rw [pairwise_keys]
              have := g1.keys
              rw [pairwise_keys] at this
              simpa [Mem.set_keys] using this
            · have old : ∀ z : Nat × OBlk, z ∈ (K, OBlk.arr e (.slc none sz [])) :: c.mem.set b (.cells t (cs.set off (.vec K))) → z.2.Lies → ∃ o, (z.1, o) ∈ (K, OBlk.arr e (.slc none sz [])) :: c.mem ∧ o.Lies := by
                intro z hz hl
                rcases List.mem_cons.1 hz with rfl | hz
                · exact ⟨_, List.mem_cons_self, hl⟩
                · rcases hspec z.1 z.2 hz with ⟨h1, h2⟩ | ⟨_, hm⟩
                  · exact ⟨.cells t cs, List.mem_cons_of_mem _ (by rw [h1]; exact hmem), trivial⟩
                  · exact ⟨_, List.mem_cons_of_mem _ hm, hl⟩
              obtain ⟨ox, hx1, hx2⟩ := old x hx hlx
              obtain ⟨oy, hy1, hy2⟩ := old y hy hly
              exact g1.apart (x.1, ox) (y.1, oy) hx1 hy1 hne hx2 hy2
          have hr := h (E.setV K 0 (none, 0)) H w g2 ok
          simp only at hr
          rw [hrest] at hr
          have e1 : SFrm.den (E.setV K 0 (none, 0)) c.top = c.top.den E := by
            simp only [SFrm.den]
            rw [SV.denL_agree ha _ f2]
          rw [e1] at hr
          exact hr
        · cases hc
      · cases hc

end Sx
end
section
/- The symbolic machine. -/
namespace Sx
open Go RowKit

/-- To part on what a map holds. -/
def brA (f : SV → Tree) (d : SV) : List (Bool × SV) → Tree
  | [] => f d
  | (b, v) :: r => .br b (f v) (brA f d r)

/-- A key that nobody names yet. -/
def keyFor (c : Conf) (dst : Option Tmp) : Nat → Nat → Option Nat
  | 0, _ => none
  | n + 1, d => match c.fresh (dstKey d dst) with
    | true => some (dstKey d dst)
    | false => keyFor c dst n (d + 10)

theorem keyFor_spec {c : Conf} {dst : Option Tmp} : ∀ {n d key : Nat}, keyFor c dst n d = some key → c.fresh key = true
  | 0, _, _, h => by cases h
  | n + 1, d, key, h => by
    simp only [keyFor] at h
    split at h
    · rename_i hc; cases h; exact hc
    · exact keyFor_spec h

section
variable {β : Type _}
/-- The frames below are computed. -/
noncomputable def nzR (l : List SFrm) (k : List SFrm → β) : β :=
  List.rec (motive := fun _ => (List SFrm → β) → β) (fun k => k []) (fun x _ ih k => nzL SV.nz2 x.tmps fun t => ih fun r => k (⟨x.fn, x.ri, x.await, x.todo, t⟩ :: r)) l k
theorem nzR_eq : ∀ (l : List SFrm) (k : List SFrm → β), nzR l k = k l
  | [], _ => rfl
  | x :: r, k => by
    show nzL SV.nz2 x.tmps (fun t => nzR r fun r' => k (⟨x.fn, x.ri, x.await, x.todo, t⟩ :: r')) = _
    rw [nzL_eq SV.nz2_eq, nzR_eq r]
end

/-- A leaf, in its plain form. -/
noncomputable def leafR (c : Conf) : Tree := nzR c.rest fun r => .leaf ⟨c.top, r, c.mem⟩
theorem leafR_eq : leafR = Tree.leaf := by funext c; simp only [leafR, nzR_eq]
theorem headR_sound {P : Program} {C : Ctx} {R : Value → World → Prop} {c : Conf} (h : (headC P c leafR).holds P C R) : Runs P C c R := headC_sound (by rwa [leafR_eq] at h)

/-- To go round a loop once more. -/
def unroll (c : Conf) : Conf :=
  match c.top.todo with
  | .inLoop b :: k => { c with top := { c.top with todo := .code b :: .inLoop b :: k } }
  | _ => c

/-- One step of the symbolic machine. 'U': the functions whose loops are gone round. -/
noncomputable def stepC (P : Program) (cs : Ctrs) (U : FuncId → Bool) (ih : Conf → Tree) (c : Conf) : Tree :=
  let s := c.top
  match s.ri with
  | some (_, []) => nz { c with top := { s with ri := none } } ih
  | some (ops, i :: l) =>
    match ops[i]? with
    | none => ih { c with top := { s with ri := some (ops, l) } }
    | some o =>
      match guardR ops o s.tmps with
      | .bad => .stuck
      | .no => ih { c with top := { s with ri := some (ops, l), tmps := putS s.tmps o.dst .undef } }
      | .fork t b => .br b (ih { c with top := { s with tmps := s.tmps.set t (.lb true) } }) (ih { c with top := { s with tmps := s.tmps.set t (.lb false) } })
      | .yes =>
        let quick := match opr P (evS s.tmps) c.mem 0 o.op with
          | .val ps v _ => needs ps (ih { c with top := { s with ri := some (ops, l), tmps := putS s.tmps o.dst v } })
          | _ => .stuck
        let plain := depthK c.rest 1 fun d => match keyFor c o.dst 40 d with
          | some key => match opr P (evS s.tmps) c.mem key o.op with
            | .val ps v m' => needs ps (ih { c with top := { s with ri := some (ops, l), tmps := putS s.tmps o.dst v }, mem := m' })
            | .all ps g => needs ps (.all fun hs => ih { c with top := { s with ri := some (ops, l), tmps := putS s.tmps o.dst (g (hs 0)).1 }, mem := (g (hs 0)).2 })
            | .bad => .stuck
          | none => .stuck
        match o.op with
        | .pick (.tmp t) _ _ =>
          match s.tmps[t]? with
          | some (.bool b) => .br b (ih { c with top := { s with tmps := s.tmps.set t (.lb true) } }) (ih { c with top := { s with tmps := s.tmps.set t (.lb false) } })
          | _ => quick
        | .store t a x =>
          match storeR P c.mem t (evS s.tmps a) (evS s.tmps x) with
          | some (ps, m') => needs ps (ih { c with top := { s with ri := some (ops, l), tmps := putS s.tmps o.dst .undef }, mem := m' })
          | none => .stuck
        | .call cl =>
          match calleeOf (evS s.tmps) cl.callee with
          | some (f, first, captured) =>
            let args := first ++ cl.args.toList.map (evS s.tmps) ++ captured
            match cs.find f with
            | some ctr =>
              depthK c.rest 1 fun d => match keyFor c o.dst 40 d with
              | some key =>
                match ctr args key c.mem with
                | .val ps v m' => needs ps (ih { c with top := { s with ri := some (ops, l), tmps := putS s.tmps o.dst v }, mem := m' })
                | .all ps g => needs ps (.all fun hs => ih { c with top := { s with ri := some (ops, l), tmps := putS s.tmps o.dst (g (hs 0)).1 }, mem := (g (hs 0)).2 })
                | .bad => .stuck
              | none => .stuck
            | none =>
              match P.funcs[f]? with
              | some fn => match fn.body with
                | some body => match fn.name == "runtime.NumGoroutine" with
                  | true => .stuck
                  | false => nz { top := ⟨f, none, none, [.code body], args ++ List.replicate (fn.ntmps - args.length) .undef⟩, rest := { s with ri := some (ops, l), await := o.dst } :: c.rest, mem := c.mem } ih
                | none => .stuck
              | none => .stuck
          | none => match quickOp o.op with
            | true => quick
            | false => plain
        | .lookup t x i ok =>
          match lookR P c.mem t (evS s.tmps x) (evS s.tmps i) ok with
          | some (al, d) => brA (fun v => ih { c with top := { s with ri := some (ops, l), tmps := putS s.tmps o.dst v } }) d al
          | none => .stuck
        | _ => match quickOp o.op with
          | true => quick
          | false => plain
  | none =>
    match s.todo with
    | [] => retC P (fun c => nz c ih) c
    | .code .ret :: _ => retC P (fun c => nz c ih) c
    | .code .skip :: k => ih { c with top := { s with todo := k } }
    | .code (.label _) :: k => ih { c with top := { s with todo := k } }
    | .inBlock _ :: k => ih { c with top := { s with todo := k } }
    | .inScope _ :: k => ih { c with top := { s with todo := k } }
    | .code (.scope b) :: k => ih { c with top := { s with todo := .code b :: .inScope b :: k } }
    | .code (.seq a b) :: k => ih { c with top := { s with todo := .code a :: .code b :: k } }
    | .code (.cond x a b) :: k =>
      match evS s.tmps x with
      | .lb true => ih { c with top := { s with todo := .code a :: k } }
      | .lb false => ih { c with top := { s with todo := .code b :: k } }
      | .bool t => .br t (ih { c with top := { s with todo := .code a :: k } }) (ih { c with top := { s with todo := .code b :: k } })
      | _ => .stuck
    | .code (.block id b) :: k => ih { c with top := { s with todo := .code b :: .inBlock id :: k } }
    | .code (.loop b) :: k => match U s.fn with
      | true => ih { c with top := { s with todo := .code b :: .inLoop b :: k } }
      | false => headC P { c with top := { s with todo := .inLoop b :: k } } leafR
    | .inLoop b :: k => match U s.fn with
      | true => ih { c with top := { s with todo := .code b :: .inLoop b :: k } }
      | false => headC P { c with top := { s with todo := .inLoop b :: k } } leafR
    | .code (.exit id) :: k => match exitTo id k with
      | some k' => ih { c with top := { s with todo := k' } }
      | none => .stuck
    | .code (.goto n) :: k => match gotoIn n k with
      | some k' => ih { c with top := { s with todo := k' } }
      | none => .stuck
    | .code (.region _ ops false) :: k => ih { c with top := { s with ri := some (ops, List.range ops.size), todo := k } }
    | .code (.region _ ops true) :: k => drawC P cs ih c ops k
    | _ => .stuck

/-- The loops of these functions are gone round. -/
noncomputable def execU (P : Program) (cs : Ctrs) (U : FuncId → Bool) (n : Nat) : Conf → Tree :=
  Nat.rec (motive := fun _ => Conf → Tree) (fun _ => .stuck) (fun _ ih c => stepC P cs U ih c) n

noncomputable def exec (P : Program) (cs : Ctrs) (n : Nat) : Conf → Tree := execU P cs (fun _ => false) n

end Sx
end
section
/- The symbolic machine is right. -/
namespace Sx
open Go RowKit

section
variable {P : Program} {C : Ctx} {R : Value → World → Prop} {cs : Ctrs}

theorem after_of_holds {ih : Conf → Tree} (hih : ∀ c, (ih c).holds P C R → Runs P C c R) {r : OpR} {c : Conf} {ops : Array Oper} {l : List Nat} {dst : Option Tmp}
    (h : (match r with
      | .val ps v m' => needs ps (ih { c with top := { c.top with ri := some (ops, l), tmps := putS c.top.tmps dst v }, mem := m' })
      | .all ps g => needs ps (.all fun hs => ih { c with top := { c.top with ri := some (ops, l), tmps := putS c.top.tmps dst (g (hs 0)).1 }, mem := (g (hs 0)).2 })
      | .bad => .stuck : Tree).holds P C R) : r.After P C R c ops l dst := by
  cases r with
  | val ps v m' =>
    obtain ⟨h1, h2⟩ := needs_holds h
    exact ⟨h1, hih _ h2⟩
  | all ps g =>
    obtain ⟨h1, h2⟩ := needs_holds h
    exact ⟨h1, fun hs => hih _ (h2 fun _ => hs)⟩
  | bad => exact h.elim

theorem set_same_den (E : Env) {tmps : List SV} {t : Nat} {b : Bool} (ht : tmps[t]? = some (.bool b)) : SV.denL E (tmps.set t (.lb b)) = SV.denL E tmps := by
  rw [denL_set]
  simp only [SV.den]
  rw [SV.denL_eq]
  apply List.ext_getElem?
  intro i
  by_cases hi : i = t
  · subst hi
    have hlt : i < tmps.length := (List.getElem?_eq_some_iff.1 ht).1
    rw [List.getElem?_set_self (by simpa using hlt)]
    simp [ht, SV.den]
  · rw [List.getElem?_set_ne (Ne.symm hi)]

theorem ok_set_lb {H : HV} {tmps : List SV} (h : SV.OkL H tmps) (t : Nat) (b : Bool) : SV.OkL H (tmps.set t (.lb b)) :=
  okL_putS (dst := some t) h (by simp [SV.Ok])

/-- To part on a bool that a slot holds. -/
theorem runs_fork {c : Conf} {t : Nat} {b : Bool} (ht : c.top.tmps[t]? = some (.bool b))
    (h1 : b = true → Runs P C { c with top := { c.top with tmps := c.top.tmps.set t (.lb true) } } R)
    (h2 : b = false → Runs P C { c with top := { c.top with tmps := c.top.tmps.set t (.lb false) } } R) : Runs P C c R := by
  cases b with
  | true => exact runs_top (h1 rfl) rfl rfl (fun H ok => ok_set_lb ok.1 t true) (fun E w T h => by simp only [SFrm.den, set_same_den E ht] at h ⊢; exact h)
  | false => exact runs_top (h2 rfl) rfl rfl (fun H ok => ok_set_lb ok.1 t false) (fun E w T h => by simp only [SFrm.den, set_same_den E ht] at h ⊢; exact h)

theorem brA_holds {f : SV → Tree} {d : SV} : ∀ {l : List (Bool × SV)}, (brA f d l).holds P C R → (f (pickA d l)).holds P C R
  | [], h => h
  | (true, v) :: r, h => h.1 rfl
  | (false, v) :: r, h => brA_holds (l := r) (h.2 rfl)

theorem step_sound (hcs : cs.Ok P) {U : FuncId → Bool} {ih : Conf → Tree} (hih : ∀ c, (ih c).holds P C R → Runs P C c R) (c : Conf) (h : (stepC P cs U ih c).holds P C R) : Runs P C c R := by
  obtain ⟨⟨fn, ri, aw, todo, tmps⟩, rest, mem⟩ := c
  cases ri with
  | some x =>
    obtain ⟨ops, l⟩ := x
    cases l with
    | nil =>
      simp only [stepC, nz_eq] at h
      exact runs_top (hih _ h) rfl rfl (fun H ok => ok.1) (fun E w T h => ⟨rfl, h⟩)
    | cons i l =>
      simp only [stepC] at h
      cases ho : ops[i]? with
      | none =>
        simp only [ho] at h
        refine runs_top (hih _ h) rfl rfl (fun H ok => ok.1) (fun E w T h => ?_)
        simp only [SFrm.den, CFrm.run, wpOps_cons] at h ⊢
        unfold wpOp
        simp only [ho]
        exact h
      | some o =>
        simp only [ho] at h
        cases hg : guardR ops o tmps with
        | bad => simp only [hg] at h; exact h.elim
        | no =>
          simp only [hg] at h
          refine runs_top (hih _ h) rfl rfl (fun H ok => okL_putS ok.1 (by simp [SV.Ok])) (fun E w T h => ?_)
          refine frm_no ho ((guardR_spec (E := E)).2.1 hg) ?_
          simp only [SFrm.den] at h ⊢
          rw [← put_den] at h
          exact h
        | fork t b =>
          simp only [hg] at h
          exact runs_fork (t := t) (b := b) ((guardR_spec (E := ⟨fun _ => 0, fun _ => (none, 0), fun _ => .bool false⟩)).2.2 t b hg) (fun hb => hih _ (h.1 hb)) (fun hb => hih _ (h.2 hb))
        | yes =>
          simp only [hg] at h
          have plain : ∀ (key : Nat), Conf.fresh key ⟨⟨fn, some (ops, i :: l), aw, todo, tmps⟩, rest, mem⟩ = true →
              (opr P (evS tmps) mem key o.op).After P C R ⟨⟨fn, some (ops, i :: l), aw, todo, tmps⟩, rest, mem⟩ ops l o.dst → Runs P C ⟨⟨fn, some (ops, i :: l), aw, todo, tmps⟩, rest, mem⟩ R :=
            fun key hf ha => runs_opr rfl ho hg hf ha
          -- an operation that reads alone
          have quick : quickOp o.op = true → (match opr P (evS tmps) mem 0 o.op with
              | .val ps v _ => needs ps (ih ⟨⟨fn, some (ops, l), aw, todo, putS tmps o.dst v⟩, rest, mem⟩)
              | _ => .stuck : Tree).holds P C R → Runs P C ⟨⟨fn, some (ops, i :: l), aw, todo, tmps⟩, rest, mem⟩ R := by
            intro hq h
            split at h
            · rename_i ps v m' hr
              obtain ⟨h1, h2⟩ := needs_holds h
              have hr2 := hih _ h2
              intro E H w g ok
              obtain ⟨e1, e2⟩ := oprQ_spec (P := P) (o := o) (v := v) (ps := ps) g ok.1 (by simp only [oprQ, hq, if_true, hr]) h1
              have h3 := hr2 E H w g ⟨okL_putS ok.1 e2, ok.2⟩
              rw [stkRun_eq] at h3 ⊢
              simp only [SFrm.den] at h3 ⊢
              rw [← put_den] at h3
              exact frm_op ho ((guardR_spec (E := E)).1 hg) (.inl e1) h3
            · exact h.elim
          have other : (depthK rest 1 fun d => match keyFor ⟨⟨fn, some (ops, i :: l), aw, todo, tmps⟩, rest, mem⟩ o.dst 40 d with
              | some key => match opr P (evS tmps) mem key o.op with
                | .val ps v m' => needs ps (ih ⟨⟨fn, some (ops, l), aw, todo, putS tmps o.dst v⟩, rest, m'⟩)
                | .all ps g => needs ps (.all fun hs => ih ⟨⟨fn, some (ops, l), aw, todo, putS tmps o.dst (g (hs 0)).1⟩, rest, (g (hs 0)).2⟩)
                | .bad => .stuck
              | none => .stuck : Tree).holds P C R → Runs P C ⟨⟨fn, some (ops, i :: l), aw, todo, tmps⟩, rest, mem⟩ R := by
            intro h
            rw [depthK_eq] at h
            split at h
            · rename_i key hkey
              exact plain _ (keyFor_spec hkey) (after_of_holds hih h)
            · exact h.elim
          have both : (match quickOp o.op with
              | true => (match opr P (evS tmps) mem 0 o.op with
                | .val ps v _ => needs ps (ih ⟨⟨fn, some (ops, l), aw, todo, putS tmps o.dst v⟩, rest, mem⟩)
                | _ => .stuck : Tree)
              | false => (depthK rest 1 fun d => match keyFor ⟨⟨fn, some (ops, i :: l), aw, todo, tmps⟩, rest, mem⟩ o.dst 40 d with
                | some key => match opr P (evS tmps) mem key o.op with
                  | .val ps v m' => needs ps (ih ⟨⟨fn, some (ops, l), aw, todo, putS tmps o.dst v⟩, rest, m'⟩)
                  | .all ps g => needs ps (.all fun hs => ih ⟨⟨fn, some (ops, l), aw, todo, putS tmps o.dst (g (hs 0)).1⟩, rest, (g (hs 0)).2⟩)
                  | .bad => .stuck
                | none => .stuck) : Tree).holds P C R → Runs P C ⟨⟨fn, some (ops, i :: l), aw, todo, tmps⟩, rest, mem⟩ R := by
            intro h
            cases hq : quickOp o.op with
            | true => rw [hq] at h; exact quick hq h
            | false => rw [hq] at h; exact other h
          split at h
          · rename_i t x y hop
            split at h
            · rename_i b ht
              exact runs_fork (t := t) (b := b) ht (fun hb => hih _ (h.1 hb)) (fun hb => hih _ (h.2 hb))
            · exact quick (by rw [hop]; rfl) h
          · rename_i t a x hop
            split at h
            · rename_i ps m' hst
              obtain ⟨h1, h2⟩ := needs_holds h
              have hr2 := hih _ h2
              intro E H w g ok
              obtain ⟨w', e1, e2, _⟩ := storeR_spec (P := P) g (ok_evS ok.1 x) hst h1
              have h3 := hr2 E H w' e2 ⟨okL_putS ok.1 (by simp [SV.Ok]), ok.2⟩
              rw [stkRun_eq] at h3 ⊢
              simp only [SFrm.den] at h3 ⊢
              rw [← put_den] at h3
              refine frm_op ho ((guardR_spec (E := E)).1 hg) (.inr ⟨?_, rfl⟩) h3
              unfold execOp
              simp only [hop, Sem.run_bind]
              rw [den_evS, den_evS, e1]
              rfl
            · exact h.elim
          · rename_i cl hop
            split at h
            · rename_i f first captured hcal
              split at h
              · rename_i ctr hfind
                rw [depthK_eq] at h
                split at h
                · rename_i key hkey
                  exact runs_ctr rfl ho hg (keyFor_spec hkey) hop hcal (hcs _ (Ctrs.find_mem hfind)) (after_of_holds hih h)
                · exact h.elim
              · split at h
                · rename_i fn' hfn
                  split at h
                  · rename_i body hb
                    split at h
                    · exact h.elim
                    · rename_i hn
                      rw [nz_eq] at h
                      exact runs_in rfl ho hg hop hcal hfn hb (by simpa using hn) (hih _ h)
                  · exact h.elim
                · exact h.elim
            · exact both h
          · rename_i t x i' ok hop
            split at h
            · rename_i al d hlk
              have hr2 := hih _ (brA_holds h)
              intro E H w g ok2
              obtain ⟨e1, e2⟩ := lookR_spec (P := P) g hlk
              have h3 := hr2 E H w g ⟨okL_putS ok2.1 e2, ok2.2⟩
              rw [stkRun_eq] at h3 ⊢
              simp only [SFrm.den] at h3 ⊢
              rw [← put_den] at h3
              refine frm_op ho ((guardR_spec (E := E)).1 hg) (.inl ?_) h3
              unfold execOp
              simp only [hop, Sem.run_bind]
              rw [den_evS, den_evS, e1]
              rfl
            · exact h.elim
          · exact both h
  | none =>
    have hret : ∀ (todo' : List Item), (todo' = [] ∨ ∃ k, todo' = .code .ret :: k) →
        (retC P (fun c => nz c ih) ⟨⟨fn, none, aw, todo', tmps⟩, rest, mem⟩).holds P C R →
        Runs P C ⟨⟨fn, none, aw, todo', tmps⟩, rest, mem⟩ R := by
      intro todo' htodo h
      simp only [retC] at h
      cases hfn : P.funcs[fn]? with
      | none => simp only [hfn] at h; exact h.elim
      | some f =>
        simp only [hfn] at h
        cases hres : resS P mem tmps f.results.toList with
        | none => simp only [hres] at h; exact h.elim
        | some l =>
          simp only [hres] at h
          intro E H w g ok
          obtain ⟨h1, h2⟩ := run_results (P := P) g ok.1 hres
          have fin : ∀ T : Value → World → Prop, T ((one? l).den E) w → Go1 P fn todo' ⟨(SV.denL E tmps).toArray, []⟩ w T := by
            intro T hT
            rcases htodo with rfl | ⟨k, rfl⟩
            · exact Go1.fin hfn rfl h1 hT
            · exact Go1.ret hfn rfl h1 hT
          rw [stkRun_eq]
          simp only [SFrm.den, CFrm.run]
          refine fin _ ?_
          cases rest with
          | nil =>
            simp only [List.map_nil, restOf]
            obtain ⟨H', hle, g', _⟩ := pubsR_spec (leaves (one? l)) g
            obtain ⟨e1, e2⟩ := closeV_spec g' _ (h2.mono hle)
            rw [← e1]
            exact h E H' w (g'.sub (List.nil_sublist _)) e2
          | cons s r =>
            simp only [List.map_cons, restOf]
            have h : (nz _ ih).holds P C R := h
            rw [nz_eq] at h
            have hr := hih _ h E H w g ⟨okL_putS (ok.2 s List.mem_cons_self) h2, fun f hf => ok.2 f (List.mem_cons_of_mem _ hf)⟩
            simp only [SFrm.den] at hr ⊢
            rw [← put_den] at hr
            rw [stkRun_eq] at hr ⊢
            exact hr
    have one : ∀ (todo' : List Item), (∀ (b : Frame) cs w a, step P (lone (b.at a todo) cs w) = .next (lone (b.at a todo') cs w)) →
        Runs P C ⟨⟨fn, none, aw, todo', tmps⟩, rest, mem⟩ R → Runs P C ⟨⟨fn, none, aw, todo, tmps⟩, rest, mem⟩ R :=
      fun todo' hs hr => runs_top hr rfl rfl (fun H ok => ok.1) (fun E w T hh => Go1.step (fun b cs => hs b cs w _) hh)
    cases todo with
    | nil => exact hret [] (.inl rfl) h
    | cons it k =>
      cases it
      case inBlock id => exact one _ (fun b cs w a => step_inBlock) (hih _ h)
      case inScope bd => exact one _ (fun b cs w a => step_inScope) (hih _ h)
      case inLoop bd =>
        simp only [stepC] at h
        split at h
        · exact one _ (fun b cs w a => step_inLoop) (hih _ h)
        · exact headR_sound h
      case inRegion a b => exact h.elim
      case inRangeFunc a => exact h.elim
      case endRangeFunc a => exact h.elim
      case beginRound => exact h.elim
      case call => exact h.elim
      case code cd =>
        cases cd
        case refuse => exact h.elim
        case rangeFunc => exact h.elim
        case skip => exact one _ (fun b cs w a => step_skip) (hih _ h)
        case label n => exact one _ (fun b cs w a => step_label) (hih _ h)
        case seq a b => exact one _ (fun b cs w a => step_seq) (hih _ h)
        case scope b => exact one _ (fun b cs w a => step_scope) (hih _ h)
        case block id b => exact one _ (fun b cs w a => step_block) (hih _ h)
        case loop b =>
          -- at the head of a loop
          have headed : Runs P C ⟨⟨fn, none, aw, .inLoop b :: k, tmps⟩, rest, mem⟩ R → Runs P C ⟨⟨fn, none, aw, .code (.loop b) :: k, tmps⟩, rest, mem⟩ R := by
            intro hrun E H w g ok
            have hr := hrun E H w g ok
            rw [stkRun_eq] at hr ⊢
            refine Go1.step (fun fr cs => step_loop) ?_
            have hr2 : Go1 P fn (.inLoop b :: k) ⟨(SV.denL E tmps).toArray, []⟩ w _ := hr
            intro fr cs hb hk
            obtain ⟨v, w2, fr2, h1, ⟨n, hn⟩, h3⟩ := hr2 fr cs hb hk
            cases n with
            | zero =>
              simp only [runN] at hn
              obtain ⟨_, hl⟩ := h3
              have : fr2 = fr.at ⟨(SV.denL E tmps).toArray, []⟩ (.inLoop b :: k) := by
                simp only [Stepped.next.injEq, lone, Machine.mk.injEq] at hn
                have := hn.2.1
                simp at this
                exact this.symm
              subst this
              exact absurd hl.1 (by simp [Frame.at])
            | succ n =>
              simp only [runN] at hn
              rw [step_inLoop] at hn
              exact ⟨v, w2, fr2, h1, ⟨n, hn⟩, h3⟩
          simp only [stepC] at h
          split at h
          · refine headed (runs_top (hih _ h) rfl rfl (fun H ok => ok.1) (fun E w T hh => Go1.step (fun fr cs => step_inLoop) hh))
          · exact headed (headR_sound h)
        case ret => exact hret _ (.inr ⟨k, rfl⟩) h
        case exit id =>
          simp only [stepC] at h
          split at h
          · rename_i k' hk; exact one _ (fun b cs w a => step_exit hk) (hih _ h)
          · exact h.elim
        case goto n =>
          simp only [stepC] at h
          split at h
          · rename_i k' hk; exact one _ (fun b cs w a => step_goto hk) (hih _ h)
          · exact h.elim
        case cond x a b =>
          have go : ∀ (t : Bool), (∀ E, (evS tmps x).den E = .bool t) → Runs P C ⟨⟨fn, none, aw, .code (if t then a else b) :: k, tmps⟩, rest, mem⟩ R → Runs P C ⟨⟨fn, none, aw, .code (.cond x a b) :: k, tmps⟩, rest, mem⟩ R := by
            intro t ht hr
            refine runs_top hr rfl rfl (fun H ok => ok.1) (fun E w T hh => ?_)
            exact Go1.step (fun fr cs => step_cond (by rw [SFrm.den, den_evS]; exact ht E)) hh
          simp only [stepC] at h
          split at h
          · rename_i hx; exact go true (fun E => by rw [hx]; rfl) (hih _ h)
          · rename_i hx; exact go false (fun E => by rw [hx]; rfl) (hih _ h)
          · rename_i t hx
            cases t with
            | true => exact go true (fun E => by rw [hx]; rfl) (hih _ (h.1 rfl))
            | false => exact go false (fun E => by rw [hx]; rfl) (hih _ (h.2 rfl))
          · exact h.elim
        case region id ops draw =>
          cases draw with
          | true => exact drawC_sound hcs hih h
          | false =>
            refine runs_top (hih _ h) rfl rfl (fun H ok => ok.1) (fun E w T hh => ?_)
            exact Go1.code (wp_region hh)
      exact h.elim

theorem execU_sound (hcs : cs.Ok P) (U : FuncId → Bool) : ∀ (n : Nat) (c : Conf), (execU P cs U n c).holds P C R → Runs P C c R
  | 0, _, h => h.elim
  | n + 1, c, h => step_sound (U := U) (ih := execU P cs U n) hcs (fun c h => execU_sound hcs U n c h) c h

theorem exec_sound (hcs : cs.Ok P) (n : Nat) (c : Conf) (h : (exec P cs n c).holds P C R) : Runs P C c R := execU_sound hcs _ n c h
end
end Sx
end
section
/- Whole functions: their entry, their loops, their contracts. -/
namespace Sx
open Go RowKit

/-- What stands in a world whose old memory is as it was: more memory that nobody writes, in new blocks. -/
structure After (w : World) (H : HV) (w' : World) (H' : HV) : Prop where
  below : Below w.heap.size w w'
  le : HLe H H'
  fresh : ∀ b o v, H' b o = some v → H b o = some v ∨ w.heap.size ≤ b
  cell : ∀ b o v, H' b o = some v → w'.cell? ⟨b, o, none⟩ = some v

def InMem (H : HV) (w : World) : Prop := ∀ b o v, H b o = some v → w.cell? ⟨b, o, none⟩ = some v

/-- A call that leaves old memory alone and hands back a value of which T holds. -/
def PCall (P : Program) (f : FuncId) (H : HV) (args : List Value) (T : HV → Value → Prop) : Prop :=
  ∀ w, InMem H w → Calls P f args.toArray w fun e w' => ∃ v H', e = .returned v ∧ After w H w' H' ∧ T H' v

def entry (P : Program) (f : FuncId) (args : List SV) : Conf :=
  match P.funcs[f]? with
  | some fn => match fn.body with
    | some b => ⟨⟨f, none, none, [.code b], args ++ List.replicate (fn.ntmps - args.length) .undef⟩, [], []⟩
    | none => ⟨⟨f, none, none, [], []⟩, [], []⟩
  | none => ⟨⟨f, none, none, [], []⟩, [], []⟩

/-- Every function that is called here has a body. -/
def Bodied (P : Program) (f : FuncId) : Bool :=
  match P.funcs[f]? with
  | some fn => fn.body.isSome && !(fn.name == "runtime.NumGoroutine")
  | none => false

theorem bodied_spec {P : Program} {f : FuncId} (h : Bodied P f = true) : ∃ fn, P.funcs[f]? = some fn ∧ fn.body.isSome = true ∧ (fn.name == "runtime.NumGoroutine") = false := by
  unfold Bodied at h
  split at h
  · rename_i fn hfn
    simp only [Bool.and_eq_true, Bool.not_eq_true'] at h
    exact ⟨fn, hfn, h.1, h.2⟩
  · cases h

section
variable {P : Program} {f : FuncId} {H : HV}

theorem good_start {w : World} (hc : InMem H w) (E : Env) : Good ⟨w, H⟩ [] E H w :=
  ⟨Below.refl _ _, HLe.refl _, fun _ _ _ h => .inl h, hc, by simp, List.Pairwise.nil, by simp⟩

/-- A function, from what its states do. -/
theorem pcall {args : List SV} {T : HV → Value → Prop} (hb : Bodied P f = true) (hok : SV.OkL H args) (E : Env)
    (h : ∀ w, Runs P ⟨w, H⟩ (entry P f args) fun v w' => ∃ H', After w H w' H' ∧ T H' v) : PCall P f H (SV.denL E args) T := by
  intro w hc
  obtain ⟨fn, hfn, hbs, _⟩ := bodied_spec hb
  cases hbody : fn.body with
  | none => rw [hbody] at hbs; cases hbs
  | some b =>
    have he := h w
    simp only [entry, hfn, hbody] at he
    have hr := he E H w (good_start hc E) ⟨okL_append hok (by rw [SV.OkL_iff]; intro x hx; rw [List.eq_of_mem_replicate hx]; simp [SV.Ok]), by simp⟩
    rw [stkRun_eq] at hr
    simp only [List.map_nil, restOf, SFrm.den, CFrm.run] at hr
    have e3 : (SV.denL E args).toArray ++ Array.replicate (fn.ntmps - (SV.denL E args).toArray.size) undef = (SV.denL E (args ++ List.replicate (fn.ntmps - args.length) .undef)).toArray := by
      simp [SV.denL_eq, SV.den, ← List.toArray_replicate]
    have hcall := calls_of_go1 (P := P) (f := f) (args := (SV.denL E args).toArray) (w := w) hfn hbody (by rw [e3]; exact hr)
    exact Calls.mono hcall fun e w' ⟨v, hv, H', h1, h2⟩ => ⟨v, H', hv, h1, h2⟩

/-- What a return gives: the memory at the end. -/
theorem after_good {w w' : World} {m : Mem} {E : Env} {H' : HV} (g : Good ⟨w, H⟩ m E H' w') : After w H w' H' := ⟨g.below, g.ext, g.fresh, g.cell⟩

theorem unroll_sound {C : Ctx} {R : Value → World → Prop} {c : Conf} (hri : c.top.ri = none) (h : Runs P C (unroll c) R) : Runs P C c R := by
  obtain ⟨⟨fn, ri, aw, todo, tmps⟩, rest, mem⟩ := c
  simp only at hri
  subst hri
  unfold unroll at h
  split at h
  · rename_i b k he
    simp only at he
    subst he
    exact runs_top h rfl rfl (fun H ok => ok.1) (fun E w T hh => Go1.step (fun fr cs => step_inLoop) hh)
  · exact h

/-- What a contract says of its arguments (rows of one's own are published before): what must hold, and the result. -/
inductive SpecR where
  | scalar (ps : List Prop) (v : SV)
  | data (ps : List Prop) (g : (Nat → D) → SV)
  | no

/-- A result that names nothing in memory. -/
def SV.flat : SV → Bool
  | .int .. => true
  | .bool _ => true
  | .lb _ => true
  | _ => false

mutual
/-- A value without anything of one's own. -/
def SV.shutV : SV → Bool
  | .int .. => true
  | .bool _ => true
  | .lb _ => true
  | .str _ => true
  | .nils => true
  | .dat _ => true
  | .nilp => true
  | .agg l => SV.shutL l
  | .tup l => SV.shutL l
  | _ => false
def SV.shutL : List SV → Bool
  | [] => true
  | x :: r => SV.shutV x && SV.shutL r
end

/-- A function's law: on arguments that are data alone. -/
def Law (P : Program) (f : FuncId) (spec : List SV → SpecR) : Prop :=
  Bodied P f = true ∧ ∀ (H : HV) (E : Env) (args : List SV), SV.OkL H args →
    match spec args with
    | .scalar ps v => (∀ p, p ∈ ps → p) → PCall P f H (SV.denL E args) fun _ u => u = v.den E
    | .data ps g => (∀ p, p ∈ ps → p) → PCall P f H (SV.denL E args) fun H' u => ∃ hs, u = (g hs).den E ∧ (g hs).Ok H'
    | .no => True

/-- The contract that a law gives. -/
def ctrOf (spec : List SV → SpecR) : Ctr := fun args _ m =>
  match spec (closeL (pubsR (leavesL args) m) args) with
  | .scalar ps v => if v.flat then .val ps v m else .bad
  | .data ps g => .all ps fun hs => (g hs, pubsR (leavesL args) m)
  | .no => .bad

theorem closeL_spec {C : Ctx} {E : Env} {H : HV} {w : World} {m : Mem} (g : Good C m E H w) : ∀ l : List SV, SV.OkL H l → SV.denL E (closeL m l) = SV.denL E l ∧ SV.OkL H (closeL m l)
  | [], _ => by simp [closeL, SV.denL, SV.OkL]
  | x :: r, h => by
    obtain ⟨a, b⟩ := closeV_spec g x h.1
    obtain ⟨c, d⟩ := closeL_spec g r h.2
    exact ⟨by simp only [closeL, SV.denL, a, c], b, d⟩

theorem pubsR_ro {m : Mem} (h : roM m = true) : ∀ l : List SV, pubsR l m = m
  | [] => rfl
  | x :: r => by
    have hget : ∀ (m : Mem), roM m = true → ∀ k e d, m.get k ≠ some (.arr e d) := by
      intro m
      induction m with
      | nil => intro _ k e d h; cases h
      | cons y s ih =>
        intro hm k e d hk
        obtain ⟨j, o⟩ := y
        simp only [Mem.get] at hk
        cases o with
        | cells t cs =>
          simp only [roM] at hm
          split at hk
          · cases hk
          · exact ih hm k e d hk
        | map es =>
          simp only [roM] at hm
          split at hk
          · cases hk
          · exact ih hm k e d hk
        | arr e d => simp [roM] at hm
        | pub d => simp [roM] at hm
    have h1 : pubR m x = m := by
      unfold pubR
      split
      · split
        · rename_i hk; exact absurd hk (hget m h _ _ _)
        · rfl
      · rfl
    rw [pubsR, h1]
    exact pubsR_ro h r

theorem ctrOf_ro {spec : List SV → SpecR} : CtrRO (ctrOf spec) := by
  intro args key m h
  unfold ctrOf
  cases spec (closeL (pubsR (leavesL args) m) args) with
  | no => trivial
  | scalar ps v => by_cases hf : v.flat = true <;> simp [hf]
  | data ps g => simp only [pubsR_ro h]; intros; trivial

theorem ctrOf_ok {spec : List SV → SpecR} (h : Law P f spec) : CtrOk P f (ctrOf spec) := by
  refine ⟨bodied_spec h.1, fun C E H w args key m g hargs hk hk2 => ?_, ctrOf_ro⟩
  obtain ⟨H1, hle, g1, nw⟩ := pubsR_spec (leavesL args) g
  have hpm := pubsR_mem (leavesL args) (m := m)
  obtain ⟨e1, e2⟩ := closeL_spec g1 args (SV.OkL.mono hle _ hargs)
  have hl := h.2 H1 E _ e2
  unfold CallRight ctrOf
  cases hs : spec (closeL (pubsR (leavesL args) m) args) with
  | no => simp
  | scalar ps v =>
    simp only [hs] at hl ⊢
    split
    · rename_i r ps' v' m' he
      split at he
      · rename_i hfl
        simp only [OpR.val.injEq] at he
        obtain ⟨rfl, rfl, rfl⟩ := he
        intro hp
        have hc := hl hp w g1.cell
        rw [e1] at hc
        refine Calls.mono hc fun e w' ⟨u, H', he, ha, hu⟩ => ?_
        refine ⟨E, H, by rw [he, hu], Agree.refl _ _, HLe.refl _, g.call ha.below (HLe.refl _) (fun _ _ _ h => .inl h) (fun b o v hb => ha.cell b o v (ha.le b o v (hle b o v hb))), ?_⟩
        refine ⟨by cases v <;> simp [SV.flat] at hfl <;> simp [SV.Ok], ha.below.size, fun b hb _ => ha.below.block b hb, fun _ _ _ h => .inl h, fun k o h => .inr ⟨o, h⟩, fun k o h hl => .inr ⟨k, o, h, hl, rfl⟩, ha.below.os, ha.below.tape, ha.below.output⟩
      · cases he
    · rename_i r ps' g' he
      split at he <;> cases he
    · trivial
  | data ps gg =>
    simp only [hs] at hl ⊢
    intro hp
    have hc := hl hp w g1.cell
    rw [e1] at hc
    refine Calls.mono hc fun e w' ⟨u, H', he, ha, hs', hu, hok⟩ => ?_
    exact ⟨hs', E, H', by rw [he, hu], Agree.refl _ _, hle.trans ha.le, g1.call ha.below ha.le ha.fresh ha.cell, hok, ha.below.size, fun b hb _ => ha.below.block b hb, fun b x v h => (by
      rcases ha.fresh b x v h with h1 | h1
      · exact (nw b x v h1).imp id .inr
      · exact .inr (.inl h1)), fun k o h => .inr (hpm k o h).1, fun k o h hl => .inr ⟨k, o, (hpm k o h).2 hl, hl, rfl⟩, ha.below.os, ha.below.tape, ha.below.output⟩
end
end Sx
end
section
/- Codes by their place in a function; slots by their number. -/
namespace Sx
open Go

def subC : Code → List Nat → Code
  | c, [] => c
  | .seq a _, 0 :: r => subC a r
  | .seq _ b, 1 :: r => subC b r
  | .cond _ a _, 0 :: r => subC a r
  | .cond _ _ b, 1 :: r => subC b r
  | .block _ b, 0 :: r => subC b r
  | .loop b, 0 :: r => subC b r
  | .scope b, 0 :: r => subC b r
  | c, _ => c

/-- The code at a place of a function. -/
def cAt (P : Program) (f : FuncId) (p : List Nat) : Code :=
  match P.funcs[f]? with
  | some fn => match fn.body with
    | some b => subC b p
    | none => .skip
  | none => .skip

/-- The operations of the region at a place of a function. -/
def opsAt (P : Program) (f : FuncId) (p : List Nat) : Array Oper :=
  match cAt P f p with
  | .region _ ops _ => ops
  | _ => #[]

def slotS (l : List (Nat × SV)) (t : Nat) (d : SV) : SV :=
  match l with
  | [] => d
  | (u, v) :: r => if u == t then v else slotS r t d

/-- n slots from t on: those that are named, the others forgotten. -/
def mkJ (d : Nat) (l : List (Nat × SV)) : Nat → Nat → List SV
  | _, 0 => []
  | t, n + 1 => slotS l t (.junk (1000 * d + t)) :: mkJ d l (t + 1) n

/-- .. the others undefined. -/
def mkU (l : List (Nat × SV)) : Nat → Nat → List SV
  | _, 0 => []
  | t, n + 1 => slotS l t .undef :: mkU l (t + 1) n

/-- A state at the head of a loop, with no frame below. -/
def mkL (f : FuncId) (todo : List Item) (n : Nat) (l : List (Nat × SV)) (m : Mem) : Conf := ⟨⟨f, none, none, todo, mkJ 0 l 0 n⟩, [], m⟩
end Sx
end
section
/- Slices of numbers, as data. -/
namespace Sx
open Go RowKit

def mkInts (h : Hd) (s : Nat) (xs : List Int) : D := .slc h s (xs.map fun x => [.int .i64 x])

/-- The numbers that a slice holds. -/
def D.ints (d : D) : List Int := d.rows.map fun r => match r with | .int _ n :: _ => n | _ => 0

def D.IsInts (d : D) : Prop := ∃ h s xs, d = mkInts h s xs

section
variable (h : Hd) (s : Nat) (xs : List Int)
@[simp] theorem mkInts_len : (mkInts h s xs).len = xs.length := by simp [mkInts, D.len, D.rows]
@[simp] theorem mkInts_sz : (mkInts h s xs).sz = s := rfl
@[simp] theorem mkInts_hd : (mkInts h s xs).hd = h := rfl
@[simp] theorem mkInts_isNil : (mkInts h s xs).isNil = h.isNone := rfl
@[simp] theorem mkInts_ints : (mkInts h s xs).ints = xs := by
  simp only [mkInts, D.ints, D.rows, List.map_map]
  have : ((fun r : List D => match r with | .int _ n :: _ => n | _ => 0) ∘ fun x : Int => [D.int .i64 x]) = id := by funext x; rfl
  rw [this]; simp
@[simp] theorem mkInts_is : (mkInts h s xs).IsInts := ⟨h, s, xs, rfl⟩
@[simp] theorem mkInts_slc : (mkInts h s xs).IsSlc := ⟨h, s, _, rfl⟩
theorem mkInts_cellAt (i j : Nat) : (mkInts h s xs).cellAt i j = if j = 0 then (xs[i]?).map (D.int .i64) else none := by
  simp only [mkInts, D.cellAt, D.rows, List.getElem?_map]
  cases xs[i]? with
  | none => simp
  | some x => cases j <;> simp
@[simp] theorem mkInts_getInt (i : Nat) : (mkInts h s xs).getInt i 0 = xs.getD i 0 := by
  simp only [D.getInt, mkInts_cellAt, if_true, List.getD_eq_getElem?_getD]
  cases xs[i]? <;> rfl
@[simp] theorem mkInts_has (i : Nat) : (mkInts h s xs).HasCell i 0 (.int .i64) ↔ i < xs.length := by
  simp only [D.HasCell, mkInts_cellAt, if_true]
  constructor
  · rintro ⟨n, hn⟩
    cases hx : xs[i]? with
    | none => simp [hx] at hn
    | some x => exact (List.getElem?_eq_some_iff.1 hx).1
  · intro hi
    exact ⟨xs[i], by simp [hi]⟩
end

theorem mkInts_one {H : HV} {h : Hd} {s : Nat} {xs : List Int} (hok : (mkInts h s xs).Ok H) (hne : 0 < xs.length) : s = 1 := by
  cases xs with
  | nil => simp at hne
  | cons x r =>
    unfold mkInts at hok
    simp only [List.map_cons] at hok
    cases hok with
    | slc a c sz rows hsp hc hlen hcell hok => have := hlen [.int .i64 x] (by simp); simpa using this.symm

/-- In 64 bits. -/
theorem wrap64 {n : Int} (h1 : -9223372036854775808 ≤ n) (h2 : n ≤ 9223372036854775807) : IntKind.i64.wrap n = n := by
  unfold IntKind.wrap
  simp only [IntKind.bits, IntKind.signed]
  by_cases h : n % 2 ^ 64 ≥ 2 ^ (64 - 1)
  · simp [h]; omega
  · simp [h]; omega
end Sx
end
section
/- A rule for loops; numbers as data, once more; laws from calls. -/
namespace Sx
open Go RowKit

theorem noCtr (P : Program) : Ctrs.Ok P [] := fun _ h => by cases h
def env0 : Env := ⟨fun _ => 0, fun _ => (none, 0), fun _ => .bool false⟩

/-- A loop: each round begins in a state of the same form, and a measure falls. -/
theorem runs_loop {P : Program} {C : Ctx} {R : Value → World → Prop} {σ : Type} (L : σ → Conf) (I : σ → Prop) (m : σ → Nat) (hri : ∀ s, (L s).top.ri = none)
    (hstep : ∀ s, I s → (∀ s', I s' → m s' < m s → Runs P C (L s') R) → Runs P C (unroll (L s)) R) : ∀ s, I s → Runs P C (L s) R := by
  have key : ∀ k s, m s = k → I s → Runs P C (L s) R := by
    intro k
    induction k using Nat.strongRecOn with
    | _ k ih =>
      intro s hk hI
      exact unroll_sound (hri s) (hstep s hI fun s' hI' hlt => ih (m s') (by omega) s' rfl hI')
  exact fun s hI => key _ s rfl hI

theorem ints1 {H : HV} {h : Hd} {s : Nat} {xs : List Int} (hok : (mkInts h s xs).Ok H) : (mkInts h 1 xs).Ok H ∧ (mkInts h s xs).val = (mkInts h 1 xs).val := by
  refine ⟨?_, by simp [mkInts, D.val]⟩
  cases xs with
  | nil =>
    cases h with
    | none => exact .nil 1
    | some q =>
      obtain ⟨a, c⟩ := q
      unfold mkInts at hok ⊢
      cases hok with
      | slc _ _ _ _ hsp hc hlen hcell hok' => exact .slc a c 1 _ hsp (by simpa using hc) (by simp) (by simp) (by simp)
  | cons x r =>
    have := mkInts_one hok (by simp)
    subst this
    exact hok

/-- A slice, whoever's value it is. -/
def SV.d? : SV → Option D
  | .nils => some (.slc none 0 [])
  | .dat d => some d
  | _ => none

theorem SV.d?_spec {H : HV} {E : Env} {v : SV} {d : D} (h : v.d? = some d) (hok : v.Ok H) : v.den E = d.val ∧ d.Ok H := by
  cases v <;> simp [SV.d?] at h <;> subst h
  · exact ⟨by simp [SV.den, D.val, hval], .nil 0⟩
  · exact ⟨by simp [SV.den], hok.1⟩

theorem ints_of {H : HV} {d : D} (hd : d.IsInts) (hok : d.Ok H) : ∃ h, (mkInts h 1 d.ints).Ok H ∧ d.val = (mkInts h 1 d.ints).val := by
  obtain ⟨h, s, xs, rfl⟩ := hd
  obtain ⟨h1, h2⟩ := ints1 hok
  exact ⟨h, by simpa using h1, by simpa using h2⟩

@[simp] theorem holds_br {P : Program} {C : Ctx} {R : Value → World → Prop} {b : Bool} {t f : Tree} : (Tree.br b t f).holds P C R ↔ (b = true → t.holds P C R) ∧ (b = false → f.holds P C R) := Iff.rfl

/-- A return of a plain value. -/
theorem ret_plain {P : Program} {w : World} {H : HV} {v : SV} {u : Value} (h : ∀ E, v.den E = u) : (Tree.ret v).holds P ⟨w, H⟩ fun v w' => ∃ H', After w H w' H' ∧ v = u :=
  fun E H' w' g _ => ⟨H', after_good g, h E⟩

theorem ret_dat {P : Program} {w : World} {H : HV} {v : SV} {T : HV → Value → Prop} (h : ∀ E H', HLe H H' → v.Ok H' → T H' (v.den E)) :
    (Tree.ret v).holds P ⟨w, H⟩ fun v w' => ∃ H', After w H w' H' ∧ T H' v :=
  fun E H' w' g hv => ⟨H', after_good g, h E H' g.ext hv⟩

/-- A law, from its two kinds of results. -/
theorem law_of {P : Program} {f : FuncId} {spec : List SV → SpecR} (hb : Bodied P f = true)
    (hs : ∀ args ps v, spec args = .scalar ps v → ∀ (H : HV) (E : Env), SV.OkL H args → (∀ p, p ∈ ps → p) → PCall P f H (SV.denL E args) fun _ u => u = v.den E)
    (hd : ∀ args ps g, spec args = .data ps g → ∀ (H : HV) (E : Env), SV.OkL H args → (∀ p, p ∈ ps → p) → PCall P f H (SV.denL E args) fun H' u => ∃ hs, u = (g hs).den E ∧ (g hs).Ok H') : Law P f spec := by
  refine ⟨hb, fun H E args hargs => ?_⟩
  cases h : spec args with
  | scalar ps v => exact hs args ps v h H E hargs
  | data ps g => exact hd args ps g h H E hargs
  | no => trivial
end Sx
end
section
/- Data that stand for lists of plain things. -/
namespace Sx
open Go RowKit

class Codec (α : Type) where
  sz : Nat
  ok : List D → Prop
  dec : List D → α
  enc : α → List D
  ok_enc : ∀ a, ok (enc a)
  dec_enc : ∀ a, dec (enc a) = a
  len : ∀ r, ok r → r.length = sz

section
variable (α : Type) [Codec α]

/-- A slice whose rows stand for things of this kind. -/
def D.Is (d : D) : Prop := ∃ h s rows, d = .slc h s rows ∧ (rows = [] ∨ s = Codec.sz α) ∧ ∀ r, r ∈ rows → Codec.ok α r

/-- .. and these things. -/
def D.to (d : D) : List α := d.rows.map (Codec.dec (α := α))
end

section
variable {α : Type} [Codec α]

open Classical in
/-- This very slice, if it stands for these things; else one that does. -/
noncomputable def D.like (d : D) (xs : List α) : D := if d.Is α ∧ d.to α = xs then d else .slc none (Codec.sz α) (xs.map Codec.enc)

theorem D.like_is (d : D) (xs : List α) : (d.like xs).Is α := by
  unfold D.like
  split
  · rename_i h; exact h.1
  · exact ⟨_, _, _, rfl, .inr rfl, fun r hr => by obtain ⟨x, _, rfl⟩ := List.mem_map.1 hr; exact Codec.ok_enc x⟩

theorem D.like_to (d : D) (xs : List α) : (d.like xs).to α = xs := by
  unfold D.like
  split
  · rename_i h; exact h.2
  · simp only [D.to, D.rows, List.map_map]
    conv => rhs; rw [← List.map_id xs]
    exact List.map_congr_left fun x _ => Codec.dec_enc x

theorem D.like_self {d : D} {xs : List α} (h : d.Is α) (h' : d.to α = xs) : d.like xs = d := by
  unfold D.like
  rw [if_pos ⟨h, h'⟩]

theorem D.Is.slc {d : D} (h : d.Is α) : d.IsSlc := by obtain ⟨a, b, c, rfl, _⟩ := h; exact ⟨a, b, c, rfl⟩

theorem D.Is.length (d : D) : d.len = (d.to α).length := by simp [D.len, D.to]

theorem D.Is.size {d : D} (h : d.Is α) {i : Nat} (hi : i < (d.to α).length) : d.sz = Codec.sz α := by
  obtain ⟨a, b, c, rfl, h1, h2⟩ := h
  rcases h1 with rfl | h1
  · simp [D.to, D.rows] at hi
  · exact h1

theorem D.Is.fits {d : D} (h : d.Is α) : d.Fits (Codec.sz α) := by
  obtain ⟨a, b, c, rfl, h1, h2⟩ := h
  exact h1

/-- The i-th row, and what it stands for. -/
theorem D.Is.row {d : D} (h : d.Is α) {i : Nat} (hi : i < (d.to α).length) : ∃ r, d.rows[i]? = some r ∧ Codec.ok α r ∧ (d.to α)[i] = Codec.dec r := by
  obtain ⟨a, b, c, rfl, h1, h2⟩ := h
  simp only [D.to, D.rows, List.length_map] at hi
  refine ⟨c[i], by simp [D.rows, hi], h2 _ (List.getElem_mem hi), by simp [D.to, D.rows]⟩

/-- Rows that are listed. -/
theorem is_rows {h : Hd} {rows : List (List D)} {s : Nat} (hs : s = Codec.sz α) (hr : ∀ r, r ∈ rows → Codec.ok α r) : (D.slc h s rows).Is α := ⟨_, _, _, rfl, .inr hs, hr⟩

theorem is_nil (h : Hd) (s : Nat) : (D.slc h s []).Is α := ⟨_, _, _, rfl, .inl rfl, by simp⟩

theorem to_slc (h : Hd) (s : Nat) (rows : List (List D)) : (D.slc h s rows).to α = rows.map Codec.dec := rfl

/-- A part. -/
theorem D.Is.sub {d : D} (hd : d.Is α) (l h : Nat) : (d.sub l h).Is α ∧ (d.sub l h).to α = ((d.to α).drop l).take (h - l) := by
  obtain ⟨a, b, c, rfl, h1, h2⟩ := hd
  refine ⟨⟨_, _, _, rfl, ?_, fun r hr => h2 r (List.mem_of_mem_drop (List.mem_of_mem_take hr))⟩, ?_⟩
  · rcases h1 with rfl | h1
    · left; simp [D.rows]
    · exact .inr h1
  · simp [D.sub, D.to, D.rows, List.map_take, List.map_drop]

theorem D.Is.sub3 {d : D} (hd : d.Is α) (l h : Nat) : (d.sub3 l h).Is α ∧ (d.sub3 l h).to α = ((d.to α).drop l).take (h - l) := by
  obtain ⟨a, b, c, rfl, h1, h2⟩ := hd
  refine ⟨⟨_, _, _, rfl, ?_, fun r hr => h2 r (List.mem_of_mem_drop (List.mem_of_mem_take hr))⟩, ?_⟩
  · rcases h1 with rfl | h1
    · left; simp [D.rows]
    · exact .inr h1
  · simp [D.sub3, D.to, D.rows, List.map_take, List.map_drop]
end

/-! Numbers. -/
instance : Codec Int where
  sz := 1
  ok r := ∃ n, r = [.int .i64 n]
  dec r := match r with | .int _ n :: _ => n | _ => 0
  enc n := [.int .i64 n]
  ok_enc n := ⟨n, rfl⟩
  dec_enc _ := rfl
  len r := by rintro ⟨n, rfl⟩; rfl

/-! Bytes. -/
structure Byte where
  n : Int
deriving DecidableEq

instance : Codec Byte where
  sz := 1
  ok r := ∃ n, r = [.int .u8 n]
  dec r := match r with | .int _ n :: _ => ⟨n⟩ | _ => ⟨0⟩
  enc n := [.int .u8 n.n]
  ok_enc n := ⟨n.n, rfl⟩
  dec_enc _ := rfl
  len r := by rintro ⟨n, rfl⟩; rfl

instance : Codec Bool where
  sz := 1
  ok r := ∃ b, r = [.bool b]
  dec r := match r with | .bool b :: _ => b | _ => false
  enc b := [.bool b]
  ok_enc b := ⟨b, rfl⟩
  dec_enc _ := rfl
  len r := by rintro ⟨n, rfl⟩; rfl

@[simp] theorem sz_int : Codec.sz Int = 1 := rfl
@[simp] theorem sz_byte : Codec.sz Byte = 1 := rfl
@[simp] theorem sz_bool : Codec.sz Bool = 1 := rfl
@[simp] theorem ok_int (n : Int) : Codec.ok Int [.int .i64 n] := ⟨n, rfl⟩
@[simp] theorem dec_int (n : Int) : (Codec.dec [.int .i64 n] : Int) = n := rfl
@[simp] theorem ok_bool (b : Bool) : Codec.ok Bool [.bool b] := ⟨b, rfl⟩
@[simp] theorem dec_bool (b : Bool) : (Codec.dec [.bool b] : Bool) = b := rfl
@[simp] theorem ok_byte (n : Int) : Codec.ok Byte [.int .u8 n] := ⟨n, rfl⟩

theorem int_cell {d : D} (h : d.Is Int) {i : Nat} (hi : i < (d.to Int).length) : d.getInt i 0 = (d.to Int)[i] ∧ d.HasCell i 0 (.int .i64) := by
  obtain ⟨r, h1, ⟨n, rfl⟩, h3⟩ := h.row hi
  rw [h3]
  exact ⟨by simp [D.getInt, D.cellAt, h1], n, by simp [D.cellAt, h1]⟩

theorem bool_cell {d : D} (h : d.Is Bool) {i : Nat} (hi : i < (d.to Bool).length) : d.getBool i 0 = (d.to Bool)[i] ∧ d.HasCell i 0 .bool := by
  obtain ⟨r, h1, ⟨n, rfl⟩, h3⟩ := h.row hi
  rw [h3]
  exact ⟨by simp [D.getBool, D.cellAt, h1], n, by simp [D.cellAt, h1]⟩

end Sx
namespace Sx
@[simp] theorem len_slc (h : Hd) (s : Nat) (rows : List (List D)) : (D.slc h s rows).len = rows.length := rfl
@[simp] theorem rows_slc (h : Hd) (s : Nat) (rows : List (List D)) : (D.slc h s rows).rows = rows := rfl
@[simp] theorem sz_slc (h : Hd) (s : Nat) (rows : List (List D)) : (D.slc h s rows).sz = s := rfl
@[simp] theorem hd_slc (h : Hd) (s : Nat) (rows : List (List D)) : (D.slc h s rows).hd = h := rfl
@[simp] theorem append_list {α : Type _} (a b : List α) : List.append a b = a ++ b := rfl

/-- Rows that stand for these things. -/
def SRows (α : Type) [Codec α] (rows : List (List D)) (xs : List α) : Prop := (∀ r, r ∈ rows → Codec.ok α r) ∧ rows.map Codec.dec = xs

section
variable {α : Type} [Codec α]
theorem rows_nil : SRows α [] [] := ⟨by simp, rfl⟩
theorem rows_of {d : D} (h : d.Is α) : SRows α d.rows (d.to α) := by
  obtain ⟨a, b, c, rfl, _, h2⟩ := h
  exact ⟨h2, rfl⟩
theorem rows_app {a b : List (List D)} {xs ys : List α} (h : SRows α a xs) (h' : SRows α b ys) : SRows α (List.append a b) (xs ++ ys) := by
  refine ⟨fun r hr => ?_, by simp [h.2, h'.2]⟩
  rcases List.mem_append.1 hr with hr | hr
  · exact h.1 r hr
  · exact h'.1 r hr
theorem rows_one {r : List D} {x : α} (h : Codec.ok α r) (h' : Codec.dec r = x) : SRows α [r] [x] :=
  ⟨fun s hs => by rw [List.mem_singleton.1 hs]; exact h, by simp [h']⟩
theorem rows_len {rows : List (List D)} {xs : List α} (h : SRows α rows xs) : rows.length = xs.length := by rw [← h.2]; simp
theorem is_of {h : Hd} {s : Nat} {rows : List (List D)} {xs : List α} (hs : s = Codec.sz α) (hr : SRows α rows xs) : (D.slc h s rows).Is α ∧ (D.slc h s rows).to α = xs := ⟨is_rows hs hr.1, hr.2⟩

/-- A value that is a slice of these things. -/
def Stands (α : Type) [Codec α] (X : SV) (xs : List α) : Prop := ∃ d : D, (∀ E, X.den E = d.val) ∧ d.Is α ∧ d.to α = xs ∧ ∀ H, X.Ok H → d.Ok H

theorem stands_nils : Stands α .nils [] := ⟨.slc none 0 [], fun _ => by simp [SV.den, D.val, hval], is_nil _ _, rfl, fun _ _ => .nil 0⟩
theorem stands_dat {d : D} {xs : List α} (h : d.Is α) (h' : d.to α = xs) : Stands α (.dat d) xs := ⟨d, fun _ => by simp [SV.den], h, h', fun _ h => h.1⟩
theorem stands_like {d : D} {xs : List α} : Stands α (.dat (d.like xs)) xs := stands_dat (D.like_is d xs) (D.like_to d xs)
theorem stands_rows {h : Hd} {s : Nat} {rows : List (List D)} {xs : List α} (hs : s = Codec.sz α) (hr : SRows α rows xs) : Stands α (.dat (.slc h s rows)) xs := stands_dat (is_of hs hr).1 (is_of hs hr).2
theorem stands_self {d : D} (h : d.Is α) : Stands α (.dat d) (d.to α) := stands_dat h rfl
end

/-- The nil slice has no elements. -/
theorem nil_rows {H : HV} {d : D} (hok : d.Ok H) (hn : d.isNil = true) : d.rows = [] := by
  cases hok with
  | nil => rfl
  | slc a c sz rows => simp [D.isNil, D.hd] at hn
  | _ => rfl
theorem nil_to {α : Type} [Codec α] {H : HV} {d : D} (hok : d.Ok H) (hn : d.isNil = true) : d.to α = [] := by simp [D.to, nil_rows hok hn]
end Sx
end
section
/- Laws of functions, from what their arguments read as. -/
namespace Sx
open Go RowKit

/-- How a list of arguments is read; 'canon': the same arguments, plainly. -/
structure Rd (β : Type) where
  read : List SV → Option β
  canon : β → List SV
  right : ∀ (H : HV) (E : Env) (args : List SV) (b : β), read args = some b → SV.OkL H args → SV.denL E args = SV.denL E (canon b) ∧ SV.OkL H (canon b)

/-- .. of one argument. -/
structure Rd1 (β : Type) where
  read : SV → Option β
  canon : β → SV
  right : ∀ (H : HV) (E : Env) (x : SV) (b : β), read x = some b → x.Ok H → x.den E = (canon b).den E ∧ (canon b).Ok H

def Rd.sp {β : Type} (r : Rd β) (spec : β → SpecR) (args : List SV) : SpecR :=
  match r.read args with
  | some b => spec b
  | none => .no

def Rd1.one {α : Type} (a : Rd1 α) : Rd α where
  read l := match l with | [x] => a.read x | _ => none
  canon b := [a.canon b]
  right H E args b h hok := by
    split at h
    · obtain ⟨h1, h2⟩ := a.right H E _ b h hok.1
      exact ⟨by simp only [SV.denL, h1], h2, trivial⟩
    · cases h

def Rd1.two {α β : Type} (a : Rd1 α) (b : Rd1 β) : Rd (α × β) where
  read l := match l with
    | [x, y] => match a.read x, b.read y with
      | some p, some q => some (p, q)
      | _, _ => none
    | _ => none
  canon p := [a.canon p.1, b.canon p.2]
  right H E args p h hok := by
    split at h
    · split at h
      · rename_i h1 h2
        cases h
        obtain ⟨i1, i2⟩ := a.right H E _ _ h1 hok.1
        obtain ⟨j1, j2⟩ := b.right H E _ _ h2 hok.2.1
        exact ⟨by simp only [SV.denL, i1, j1], i2, j2, trivial⟩
      · cases h
    · cases h

def Rd1.three {α β γ : Type} (a : Rd1 α) (b : Rd1 β) (c : Rd1 γ) : Rd (α × β × γ) where
  read l := match l with
    | [x, y, z] => match a.read x, b.read y, c.read z with
      | some p, some q, some r => some (p, q, r)
      | _, _, _ => none
    | _ => none
  canon p := [a.canon p.1, b.canon p.2.1, c.canon p.2.2]
  right H E args p h hok := by
    split at h
    · split at h
      · rename_i h1 h2 h3
        cases h
        obtain ⟨i1, i2⟩ := a.right H E _ _ h1 hok.1
        obtain ⟨j1, j2⟩ := b.right H E _ _ h2 hok.2.1
        obtain ⟨k1, k2⟩ := c.right H E _ _ h3 hok.2.2.1
        exact ⟨by simp only [SV.denL, i1, j1, k1], i2, j2, k2, trivial⟩
      · cases h
    · cases h

def Rd1.four {α β γ δ : Type} (a : Rd1 α) (b : Rd1 β) (c : Rd1 γ) (d : Rd1 δ) : Rd (α × β × γ × δ) where
  read l := match l with
    | [x, y, z, u] => match a.read x, b.read y, c.read z, d.read u with
      | some p, some q, some r, some s => some (p, q, r, s)
      | _, _, _, _ => none
    | _ => none
  canon p := [a.canon p.1, b.canon p.2.1, c.canon p.2.2.1, d.canon p.2.2.2]
  right H E args p h hok := by
    split at h
    · split at h
      · rename_i h1 h2 h3 h4
        cases h
        obtain ⟨i1, i2⟩ := a.right H E _ _ h1 hok.1
        obtain ⟨j1, j2⟩ := b.right H E _ _ h2 hok.2.1
        obtain ⟨k1, k2⟩ := c.right H E _ _ h3 hok.2.2.1
        obtain ⟨l1, l2⟩ := d.right H E _ _ h4 hok.2.2.2.1
        exact ⟨by simp only [SV.denL, i1, j1, k1, l1], i2, j2, k2, l2, trivial⟩
      · cases h
    · cases h

/-- An integer. -/
def rdInt : Rd1 Int where
  read x := match x with | .int .i64 n => some n | _ => none
  canon n := .int .i64 n
  right H E x b h hok := by
    split at h
    · cases h; exact ⟨rfl, trivial⟩
    · cases h

/-- A bool. -/
def rdBool : Rd1 Bool where
  read x := match x with | .bool b => some b | .lb b => some b | _ => none
  canon b := .bool b
  right H E x b h hok := by
    split at h
    · cases h; exact ⟨rfl, trivial⟩
    · cases h; exact ⟨by simp [SV.den], trivial⟩
    · cases h

/-- A slice. -/
def rdD : Rd1 D where
  read x := x.d?
  canon d := .dat d
  right H E x d h hok := by
    obtain ⟨h1, h2⟩ := SV.d?_spec (E := E) h hok
    refine ⟨by simpa [SV.den] using h1, h2, ?_⟩
    cases x <;> simp [SV.d?] at h
    · subst h; exact ⟨_, _, _, rfl⟩
    · subst h; exact hok.2

/-- What a call that gives a plain value leaves. -/
def RetS (w : World) (H : HV) (v : SV) : Value → World → Prop := fun u w' => ∃ H', After w H w' H' ∧ ∀ E, u = v.den E

/-- .. that gives data. -/
def RetD (w : World) (H : HV) (g : (Nat → D) → SV) : Value → World → Prop := fun u w' => ∃ H', After w H w' H' ∧ ∃ ds, (∀ E, u = (g ds).den E) ∧ (g ds).Ok H'

section
variable {P : Program} {w : World} {H : HV}

theorem ret_S {v v' : SV} (h : ∀ E E', v.den E = v'.den E') : (Tree.ret v).holds P ⟨w, H⟩ (RetS w H v') :=
  fun E H' _ g _ => ⟨H', after_good g, fun E' => h E E'⟩

theorem ret_int {k : IntKind} {a b : Int} (h : a = b) : (Tree.ret (.int k a)).holds P ⟨w, H⟩ (RetS w H (.int k b)) := by
  subst h; exact ret_S fun _ _ => rfl

theorem ret_bool {a b : Bool} (h : a = b) : (Tree.ret (.bool a)).holds P ⟨w, H⟩ (RetS w H (.bool b)) := by
  subst h; exact ret_S fun _ _ => rfl

theorem ret_lb {a b : Bool} (h : a = b) : (Tree.ret (.lb a)).holds P ⟨w, H⟩ (RetS w H (.bool b)) := by
  subst h; exact ret_S fun _ _ => by simp [SV.den]

theorem ret_D {v : SV} {g : (Nat → D) → SV} (ds : Nat → D) (h : ∀ E E', v.den E = (g ds).den E') (hok : ∀ H', v.Ok H' → (g ds).Ok H') : (Tree.ret v).holds P ⟨w, H⟩ (RetD w H g) :=
  fun E H' _ gd hv => ⟨H', after_good gd, ds, fun E' => h E E', hok H' hv⟩

theorem StkRun.mono {R R' : Value → World → Prop} (hr : ∀ v w, R v w → R' v w) : ∀ {r : List CFrm} {c : CFrm} {w : World}, StkRun P c r w R → StkRun P c r w R'
  | [], _, _, h => CFrm.run_mono h hr
  | _ :: _, _, _, h => CFrm.run_mono h fun _ _ h' => StkRun.mono hr h'

theorem Runs.mono {C : Ctx} {c : Conf} {R R' : Value → World → Prop} (h : Runs P C c R) (hr : ∀ v w, R v w → R' v w) : Runs P C c R' :=
  fun E H w g ok => StkRun.mono hr (h E H w g ok)

theorem law_in {f : FuncId} {β : Type} (r : Rd β) {spec : β → SpecR} (hb : Bodied P f = true)
    (h : ∀ (H : HV) (w : World) (b : β), SV.OkL H (r.canon b) → match spec b with
      | .scalar ps v => (∀ p, p ∈ ps → p) → Runs P ⟨w, H⟩ (entry P f (r.canon b)) (RetS w H v)
      | .data ps g => (∀ p, p ∈ ps → p) → Runs P ⟨w, H⟩ (entry P f (r.canon b)) (RetD w H g)
      | .no => True) : Law P f (r.sp spec) := by
  refine ⟨hb, fun H E args hargs => ?_⟩
  unfold Rd.sp
  cases hr : r.read args with
  | none => trivial
  | some b =>
    simp only
    obtain ⟨h1, h2⟩ := r.right H E args b hr hargs
    rw [h1]
    cases hs : spec b with
    | no => trivial
    | scalar ps v =>
      intro hp
      refine pcall hb h2 E fun w => ?_
      have := h H w b h2
      rw [hs] at this
      exact (this hp).mono fun u w2 ⟨H2, ha, hu⟩ => ⟨H2, ha, hu E⟩
    | data ps g =>
      intro hp
      refine pcall hb h2 E fun w => ?_
      have := h H w b h2
      rw [hs] at this
      exact (this hp).mono fun u w2 ⟨H2, ha, ds, hu, hok⟩ => ⟨H2, ha, ds, hu E, hok⟩

@[simp] theorem holds_need {C : Ctx} {R : Value → World → Prop} {p : Prop} {t : Tree} : (Tree.need p t).holds P C R ↔ p ∧ t.holds P C R := Iff.rfl
@[simp] theorem holds_all {C : Ctx} {R : Value → World → Prop} {f : (Nat → Nat → D) → Tree} : (Tree.all f).holds P C R ↔ ∀ hs, (f hs).holds P C R := Iff.rfl
end

theorem wrap_succ {j n : Nat} (h : j < n) (hn : n ≤ 1048576) : IntKind.i64.wrap ((j : Int) + 1) = ((j + 1 : Nat) : Int) := by
  rw [wrap64 (by omega) (by omega)]; simp

theorem getD_lt {xs : List Int} {j : Nat} (h : j < xs.length) : xs.getD j 0 = xs[j] := by simp [h]

theorem take_has {xs : List Int} {j : Nat} (h : j < xs.length) (n : Int) : (xs.take (j + 1)).contains n = ((xs.take j).contains n || (xs[j] == n)) := by
  rw [List.take_succ_eq_append_getElem h]
  simp only [List.contains_eq_any_beq, List.any_append, List.any_cons, List.any_nil, Bool.or_false]
  congr 1
  exact Bool.beq_comm

/-- A slice of numbers that is read at its j-th place. -/
theorem int_at {d : D} (hd : d.Is Int) {j : Nat} (hj : j < (d.to Int).length) :
    (0 ≤ (j : Int) ∧ (j : Int) < (d.len : Int) ∧ d.sz = 1) ∧ d.HasCell (Int.toNat j) 0 (.int .i64) ∧ d.getInt (Int.toNat j) 0 = (d.to Int)[j] := by
  obtain ⟨h1, h2⟩ := int_cell hd hj
  exact ⟨⟨by omega, by rw [D.Is.length (α := Int)]; omega, by rw [hd.size hj]; rfl⟩, h2, h1⟩

end Sx
end
section
/- From how the arguments read to data. -/
namespace Sx
open Go RowKit

/-- The shapes of the types that are met. -/
inductive TS where
  | int (k : IntKind)
  | bool
  | slc (e : TS)
  | st (fs : List TS)

mutual
def TS.sz : TS → Nat
  | .int _ => 1
  | .bool => 1
  | .slc _ => 1
  | .st fs => TS.szL fs
def TS.szL : List TS → Nat
  | [] => 0
  | f :: r => f.sz + TS.szL r
end

mutual
def TS.fits (P : Program) : TS → TypeId → Bool
  | .int k, t => match P.underlying t with | some (.int k') => k' == k | _ => false
  | .bool, t => match P.underlying t with | some .bool => true | _ => false
  | .slc e, t => match P.underlying t with | some (.slice e') => e.fits P e' && P.cellsOf e' == e.sz && decide (0 < e.sz) | _ => false
  | .st fs, t => match P.underlying t with | some (.struct gs) => P.cellsOf t == TS.szL fs && TS.fitsL P fs gs.toList 0 | _ => false
def TS.fitsL (P : Program) : List TS → List Field → Nat → Bool
  | [], [], _ => true
  | f :: fs, g :: gs, off => g.offset == off && P.cellsOf g.type == f.sz && f.fits P g.type && TS.fitsL P fs gs (off + f.sz)
  | _, _, _ => false
end

mutual
def TS.Sh : TS → List D → Prop
  | .int k, ds => ∃ n, ds = [.int k n] ∧ (Lit.int k n).wf = true
  | .bool, ds => ∃ b, ds = [.bool b]
  | .slc e, ds => ∃ h s rows, ds = [.slc h s rows] ∧ (rows = [] ∨ s = e.sz) ∧ rows.length ≤ maxLen ∧ ∀ r, r ∈ rows → e.Sh r
  | .st fs, ds => TS.ShL fs ds
def TS.ShL : List TS → List D → Prop
  | [], ds => ds = []
  | f :: r, ds => ∃ a b, ds = a ++ b ∧ f.Sh a ∧ TS.ShL r b
end

/-- All that a world holds. -/
def allOf (w : World) : HV := fun b o => w.cell? ⟨b, o, none⟩
theorem allOf_in (w : World) : InMem (allOf w) w := fun _ _ _ h => h

section
variable {H : Type} {enc : TypeId × Value → H} {P : Program} {w : World} {base : Nat} {spare : Nat → Bool} {held : Bool}

/-- What a reading of this shape gives. -/
def Gives (w : World) (ts : TS) (cs : List Value) : Prop := ∃ ds : List D, ds.map D.val = cs ∧ (∀ d, d ∈ ds → d.Ok (allOf w)) ∧ ts.Sh ds ∧ ds.length = ts.sz
def GivesL (w : World) (ts : List TS) (cs : List Value) : Prop := ∃ ds : List D, ds.map D.val = cs ∧ (∀ d, d ∈ ds → d.Ok (allOf w)) ∧ TS.ShL ts ds ∧ ds.length = TS.szL ts

theorem gives_slc {e : TS} {t e' : TypeId} (ht : P.underlying t = some (.slice e')) (hc : P.cellsOf e' = e.sz) (h0 : 0 < e.sz) {fuel : Nat} {cs : List Value} {x : DataW H × List MemPlace}
    (h : DataW.trod enc P w base spare held fuel t cs = some x)
    (ih : ∀ n cs x, DataW.trod enc P w base spare held n e' cs = some x → Gives w e cs) : Gives w (.slc e) cs := by
  rcases Deep.open_slice ht h with ⟨rfl, _⟩ | ⟨a, len, cap, m, n, Df, Pl, rfl, hb, hl, hm, hmm, rfl, hx⟩
  · exact ⟨[.slc none 0 []], by simp [D.val, hval], by simp; exact .nil 0, ⟨none, 0, [], rfl, .inl rfl, Nat.zero_le _, by simp⟩, by simp [TS.sz]⟩
  · have hlm : len ≤ m := by rw [hmm]; split <;> omega
    obtain ⟨f, hf⟩ := Deep.choose_lt (α := List D) (n := len) (p := fun i ds => (w.cells? base (a.add (i * P.cellsOf e')) (P.cellsOf e') = some (ds.map D.val)) ∧ (∀ d, d ∈ ds → d.Ok (allOf w)) ∧ e.Sh ds ∧ ds.length = e.sz) (fun i hi => by
      obtain ⟨cs', h1, h2⟩ := hx i (by omega)
      obtain ⟨ds, rfl, h3⟩ := ih _ _ _ h2
      exact ⟨ds, h1, h3⟩)
    have hcell : ∀ i j x, i < len → (f i)[j]? = some x → w.cell? ((a.add (i * e.sz)).add j) = some x.val := by
      intro i j x hi hj
      obtain ⟨h1, _, _, h4⟩ := hf i hi
      obtain ⟨_, _, h2⟩ := World.cells?_some h1
      have hjl : j < P.cellsOf e' := by
        rw [hc, ← h4]
        exact (List.getElem?_eq_some_iff.1 hj).1
      rw [← hc, h2 j hjl, List.getElem?_map, hj]; rfl
    have hspot : 0 < len → a.spot = none := by
      intro hl0
      obtain ⟨_, _, _, h4⟩ := hf 0 hl0
      have := hcell 0 0 _ hl0 (List.getElem?_eq_getElem (by omega : 0 < (f 0).length))
      simp only [Nat.zero_mul, Deep.add_add] at this
      simpa [Addr.add] using World.cell?_spot this
    have hadd : ∀ k, 0 < len → a.add k = ⟨a.block, a.off + k, none⟩ := fun k hl0 => add_none (hspot hl0) k
    refine ⟨[.slc (some (a, cap)) e.sz ((List.range len).map f)], by simp [D.val, hval], ?_, ?_, by simp [TS.sz]⟩
    · intro d hd
      rw [List.mem_singleton.1 hd]
      refine .slc a cap e.sz _ (fun hne => hspot (by rcases Nat.eq_zero_or_pos len with h | h; · subst h; simp at hne
                                                     · exact h)) (by simpa using hl) ?_ ?_ ?_
      · intro r hr
        obtain ⟨i, hi, rfl⟩ := List.mem_map.1 hr
        exact (hf i (List.mem_range.1 hi)).2.2.2
      · intro i j r x hr hj
        rw [List.getElem?_map] at hr
        have hi : i < len := by
          rcases Nat.lt_or_ge i len with h | h
          · exact h
          · simp [List.getElem?_range, h] at hr
        simp [List.getElem?_range, hi] at hr
        subst hr
        have := hcell i j x hi hj
        rw [Deep.add_add, hadd _ (by omega)] at this
        simpa [allOf, Nat.add_assoc] using this
      · intro r hr
        obtain ⟨i, hi, rfl⟩ := List.mem_map.1 hr
        exact (hf i (List.mem_range.1 hi)).2.1
    · simp only [TS.Sh]
      refine ⟨_, _, _, rfl, .inr rfl, by simp; omega, fun r hr => ?_⟩
      obtain ⟨i, hi, rfl⟩ := List.mem_map.1 hr
      exact (hf i (List.mem_range.1 hi)).2.2.1

mutual
theorem gives (ts : TS) (t : TypeId) (hfit : ts.fits P t = true) (fuel : Nat) (cs : List Value) (x : DataW H × List MemPlace)
    (h : DataW.trod enc P w base spare held fuel t cs = some x) : Gives w ts cs := by
  match ts, hfit with
  | .int k, hfit =>
    unfold TS.fits at hfit
    split at hfit
    · rename_i k' ht
      simp only [beq_iff_eq] at hfit
      subst hfit
      obtain ⟨n, rfl, _, hw⟩ := DataW.trod_int ht h
      exact ⟨[.int k' n], rfl, by simp; exact .int _ _, by simp [TS.Sh, hw], by simp [TS.sz]⟩
    · cases hfit
  | .bool, hfit =>
    unfold TS.fits at hfit
    split at hfit
    · rename_i ht
      obtain ⟨n, rfl, _⟩ := DataW.trod_bool ht h
      exact ⟨[.bool n], rfl, by simp; exact .bool _, by simp [TS.Sh], by simp [TS.sz]⟩
    · cases hfit
  | .slc e, hfit =>
    unfold TS.fits at hfit
    split at hfit
    · rename_i e' ht
      simp only [Bool.and_eq_true, beq_iff_eq, decide_eq_true_eq] at hfit
      exact gives_slc ht hfit.1.2 hfit.2 h fun n cs x h' => gives e e' hfit.1.1 n cs x h'
    · cases hfit
  | .st fs, hfit =>
    unfold TS.fits at hfit
    split at hfit
    · rename_i gs ht
      simp only [Bool.and_eq_true, beq_iff_eq] at hfit
      obtain ⟨xs, n, _, _, hlen, hxl, hfld⟩ := DataW.trod_struct ht h
      have := givesL fs gs.toList 0 hfit.2 n cs (by simpa using hlen.trans hfit.1) (fun g hg => by
        obtain ⟨i, hi, hgi⟩ := List.mem_iff_getElem.1 hg
        have h1 := hfld i g (by simpa using (Array.getElem?_eq_some_iff.2 ⟨by simpa using hi, by simpa using hgi⟩))
        rw [List.getElem?_eq_getElem (by rw [hxl]; simpa using hi)] at h1
        exact ⟨_, h1⟩)
      obtain ⟨ds, h1, h2, h3, h4⟩ := this
      exact ⟨ds, by simpa using h1, h2, by simpa [TS.Sh] using h3, by simpa [TS.sz] using h4⟩
    · cases hfit
theorem givesL (ts : List TS) (gs : List Field) (off : Nat) (hfit : TS.fitsL P ts gs off = true) (n : Nat) (cs : List Value) (hlen : cs.length = off + TS.szL ts)
    (h : ∀ g, g ∈ gs → ∃ x, DataW.trod enc P w base spare held n g.type ((cs.drop g.offset).take (P.cellsOf g.type)) = some x) : GivesL w ts (cs.drop off) := by
  match ts, gs, hfit with
  | [], [], hfit =>
    refine ⟨[], ?_, by simp, by simp [TS.ShL], by simp [TS.szL]⟩
    simp only [TS.szL] at hlen
    rw [List.drop_eq_nil_of_le (by omega)]; rfl
  | [], _ :: _, hfit => simp [TS.fitsL] at hfit
  | _ :: _, [], hfit => simp [TS.fitsL] at hfit
  | f :: fs, g :: gs, hfit =>
    simp only [TS.fitsL, Bool.and_eq_true, beq_iff_eq] at hfit
    obtain ⟨⟨⟨h1, h2⟩, h3⟩, h4⟩ := hfit
    simp only [TS.szL] at hlen
    obtain ⟨x, hx⟩ := h g (by simp)
    rw [h1, h2] at hx
    obtain ⟨d1, e1, o1, s1, l1⟩ := gives f g.type h3 n _ x hx
    obtain ⟨d2, e2, o2, s2, l2⟩ := givesL fs gs (off + f.sz) h4 n cs (by omega) (fun g' hg' => h g' (by simp [hg']))
    refine ⟨d1 ++ d2, ?_, ?_, ?_, ?_⟩
    · rw [List.map_append, e1, e2, ← List.drop_drop, List.take_append_drop]
    · intro d hd
      rcases List.mem_append.1 hd with hd | hd
      · exact o1 d hd
      · exact o2 d hd
    · exact ⟨d1, d2, rfl, s1, s2⟩
    · simp [TS.szL, l1, l2]
end

/-- An argument that is a struct. -/
theorem arg_st {r : Reach} {b0 : Nat} {t : TypeId} {fs : List TS} {gs : Array Field} {v : Value} {d : DataW H} {p : List MemPlace} (ht : P.underlying t = some (.struct gs)) (hfit : TS.fits P (.st fs) t = true)
    (hv : Value.okWide P w r b0 t v) (h : DataW.Trod enc P w base spare held t v d p) :
    ∃ ds : List D, v = .agg (ds.map D.val).toArray ∧ (∀ d, d ∈ ds → d.Ok (allOf w)) ∧ TS.ShL fs ds := by
  obtain ⟨cs, rfl, _⟩ := WideShapes.okWide_struct ht hv
  obtain ⟨fuel, hf⟩ := h
  obtain ⟨ds, h1, h2, h3, _⟩ := gives (.st fs) t hfit fuel _ _ hf
  refine ⟨ds, ?_, h2, by simpa [TS.Sh] using h3⟩
  rw [h1]; simp [Value.cells]

theorem arg_slc {r : Reach} {b0 : Nat} {t e' : TypeId} {e : TS} {v : Value} {d : DataW H} {p : List MemPlace} (ht : P.underlying t = some (.slice e')) (hfit : TS.fits P (.slc e) t = true)
    (hv : Value.okWide P w r b0 t v) (h : DataW.Trod enc P w base spare held t v d p) :
    ∃ d : D, v = d.val ∧ d.Ok (allOf w) ∧ d.IsSlc ∧ TS.Sh (.slc e) [d] := by
  obtain ⟨a, len, cap, rfl⟩ := WideShapes.okWide_slice ht hv
  obtain ⟨fuel, hf⟩ := h
  obtain ⟨ds, h1, h2, h3, h4⟩ := gives (.slc e) t hfit fuel _ _ hf
  simp only [TS.sz] at h4
  obtain ⟨x, rfl⟩ := List.length_eq_one_iff.1 h4
  simp only [List.map_cons, List.map_nil, Value.cells] at h1
  refine ⟨x, by simpa using h1.symm, h2 x (by simp), ?_, h3⟩
  simp only [TS.Sh] at h3
  obtain ⟨a, b, c, h3, _⟩ := h3
  exact ⟨a, b, c, by simpa using h3⟩
end

/-- A law whose result is true, as a call. -/
theorem law_calls {P : Program} {f : FuncId} {spec : List SV → SpecR} (h : Law P f spec) {w : World} {args : List SV} (hok : SV.OkL (allOf w) args)
    (hs : ∃ ps, spec args = .scalar ps (.lb true) ∧ ∀ p, p ∈ ps → p) :
    Calls P f (SV.denL env0 args).toArray w fun e w' => e = .returned (.bool true) ∧ Below w.heap.size w w' := by
  obtain ⟨ps, hs, hp⟩ := hs
  have h2 := h.2 (allOf w) env0 args hok
  rw [hs] at h2
  exact Calls.mono (h2 hp w (allOf_in w)) fun e w' ⟨u, H', he, ha, hu⟩ => ⟨by rw [he, hu]; simp [SV.den], ha.below⟩
end Sx
end
section
/- What layer 32 computes. -/
namespace Sx
open Go RowKit

structure Src where
  epoch : Int
  site : Int
  offered : List Int
  stored : Int
  applied : Int
deriving DecidableEq

structure Tgt where
  epoch : Int
  site : Int
  stored : Int
  applied : Int
deriving DecidableEq

structure Msg where
  kind : Int
  frm : Int
  to : Int
  number : Int
  value : Int
  epoch : Int
  values : List Int := []
  body : List Byte := []
deriving DecidableEq

def okTime (n : Int) : Bool := decide (n ≥ 0) && decide (n ≤ 1073741824)
def okSite (n : Int) : Bool := decide (n ≥ 0) && decide (n < 4)
def asc : Int → List Int → Bool
  | _, [] => true
  | l, x :: r => decide (l < x) && decide (x ≤ 1073741824) && asc x r

def okRight (e s a : Int) : Bool := okTime e && okSite s && okTime a

def checkSource (s : Src) : Int :=
  if okRight s.epoch s.site s.applied = false then 2
  else if s.offered.length > 1024 then 6
  else if asc s.applied s.offered = false then 3
  else if s.stored ≠ s.applied ∧ s.stored ∉ s.offered then 12
  else 0

def checkTarget (t : Tgt) : Int :=
  if okTime t.epoch = false ∨ okSite t.site = false then 2
  else if t.applied < 0 ∨ t.stored < t.applied ∨ t.stored > 1073741824 then 3
  else 0

def newSource (e s a : Int) : Src × Int := if okRight e s a then (⟨e, s, [], a, a⟩, 0) else (⟨0, 0, [], 0, 0⟩, 2)
def newTarget (e s a : Int) : Tgt × Int := if okRight e s a then (⟨e, s, a, a⟩, 0) else (⟨0, 0, 0, 0⟩, 2)

def zSrc : Src := ⟨0, 0, [], 0, 0⟩
def zTgt : Tgt := ⟨0, 0, 0, 0⟩
def toTarget (s : Src) (kind cycle : Int) : Msg := ⟨kind, 0, s.site, cycle, 0, s.epoch, [], []⟩
def toSource (t : Tgt) (kind cycle : Int) : Msg := ⟨kind, t.site, 0, 0, cycle, t.epoch, [], []⟩

def lastOf (a : Int) (l : List Int) : Int := l.getLastD a

def offer (s : Src) (c : Int) : Src × List Msg × Int :=
  if checkSource s ≠ 0 then (zSrc, [], checkSource s)
  else if c ≤ lastOf s.applied s.offered then (zSrc, [], 8)
  else if c > 1073741824 then (zSrc, [], 2)
  else if s.offered.length ≥ 1024 then (zSrc, [], 6)
  else ({ s with offered := s.offered ++ [c] }, [toTarget s 8 c], 0)

def store (t : Tgt) (c : Int) : Tgt × List Msg × Int :=
  if checkTarget t ≠ 0 then (zTgt, [], checkTarget t)
  else if c ≤ t.stored then (zTgt, [], 8)
  else if c > 1073741824 then (zTgt, [], 2)
  else ({ t with stored := c }, [toSource t 9 c], 0)

def applyT (t : Tgt) (c : Int) : Tgt × List Msg × Int :=
  if checkTarget t ≠ 0 then (zTgt, [], checkTarget t)
  else if c ≤ t.applied then (zTgt, [], 8)
  else if c > t.stored then (zTgt, [], 15)
  else ({ t with applied := c }, [toSource t 11 c], 0)

def answer (t : Tgt) (m : Msg) : Tgt × List Msg :=
  if checkTarget t ≠ 0 ∨ m.to ≠ t.site ∨ okTime m.epoch = false ∨ (m.kind ≠ 8 ∧ m.kind ≠ 10) then (t, [])
  else if m.epoch < t.epoch then (t, [toSource t 12 0])
  else
    let t' : Tgt := if m.epoch > t.epoch then { t with epoch := m.epoch, stored := t.applied } else t
    if m.kind = 8 then (t', [toSource t' 9 t'.stored]) else (t', [toSource t' 11 t'.applied])

def learn (s : Src) (m : Msg) : Src × List Msg :=
  if checkSource s ≠ 0 ∨ m.frm ≠ s.site ∨ m.epoch < s.epoch ∨ m.epoch > 1073741824 then (s, [])
  else if m.kind ≠ 9 ∧ m.kind ≠ 11 ∧ m.kind ≠ 12 then (s, [])
  else if m.epoch > s.epoch then ({ s with epoch := m.epoch, offered := [], stored := s.applied }, [])
  else if m.kind = 9 then
    if m.value ∈ s.offered ∧ m.value ≥ s.stored then ({ s with stored := m.value }, [toTarget s 10 m.value]) else (s, [])
  else if m.kind = 11 then
    if m.value ∈ s.offered then ({ s with applied := m.value, stored := max s.stored m.value, offered := s.offered.filter fun x => decide (x > m.value) }, []) else (s, [])
  else (s, [])

def resend (s : Src) : List Msg :=
  if checkSource s ≠ 0 then []
  else (if s.stored > s.applied then [toTarget s 10 s.stored] else []) ++ (s.offered.filter fun x => decide (x > s.stored)).map (toTarget s 8)

def releasable (s : Src) : Int := if checkSource s ≠ 0 then 0 else s.applied
end Sx
end
section
/- Layer 32: its values as symbols, and what each function's contract says. -/
open Go
namespace Sx


noncomputable instance : Codec Msg where
  sz := 8
  ok r := ∃ a b c d e f v w, r = [.int .i64 a, .int .i64 b, .int .i64 c, .int .i64 d, .int .i64 e, .int .i64 f, v, w] ∧ v.Is Int ∧ w.Is Byte
  dec r := match r with
    | [.int _ a, .int _ b, .int _ c, .int _ d, .int _ e, .int _ f, v, w] => ⟨a, b, c, d, e, f, v.to Int, w.to Byte⟩
    | _ => ⟨0, 0, 0, 0, 0, 0, [], []⟩
  enc m := [.int .i64 m.kind, .int .i64 m.frm, .int .i64 m.to, .int .i64 m.number, .int .i64 m.value, .int .i64 m.epoch, D.like default m.values, D.like default m.body]
  ok_enc m := ⟨_, _, _, _, _, _, _, _, rfl, D.like_is _ _, D.like_is _ _⟩
  dec_enc m := by simp [D.like_to]
  len r := by rintro ⟨_, _, _, _, _, _, _, _, rfl, _⟩; rfl

@[simp] theorem sz_msg : Codec.sz Msg = 8 := rfl
@[simp] theorem ok_msg (a b c d e f : Int) : Codec.ok Msg [.int .i64 a, .int .i64 b, .int .i64 c, .int .i64 d, .int .i64 e, .int .i64 f, .slc none 0 [], .slc none 0 []] :=
  ⟨_, _, _, _, _, _, _, _, rfl, is_nil _ _, is_nil _ _⟩
@[simp] theorem dec_msg (a b c d e f : Int) : (Codec.dec [.int .i64 a, .int .i64 b, .int .i64 c, .int .i64 d, .int .i64 e, .int .i64 f, .slc none 0 [], .slc none 0 []] : Msg) = ⟨a, b, c, d, e, f, [], []⟩ := rfl

theorem msg_cell {d : D} (h : d.Is Msg) {i : Nat} (hi : i < (d.to Msg).length) :
    d.HasCells i 0 [.int .i64, .int .i64, .int .i64, .int .i64, .int .i64, .int .i64, .slc, .slc] ∧
    d.getInt i 0 = ((d.to Msg)[i]).kind ∧ d.getInt i 1 = ((d.to Msg)[i]).frm ∧ d.getInt i 2 = ((d.to Msg)[i]).to ∧ d.getInt i 3 = ((d.to Msg)[i]).number ∧
    d.getInt i 4 = ((d.to Msg)[i]).value ∧ d.getInt i 5 = ((d.to Msg)[i]).epoch ∧ (d.cell i 6).Is Int ∧ (d.cell i 6).to Int = ((d.to Msg)[i]).values ∧ (d.cell i 7).Is Byte ∧ (d.cell i 7).to Byte = ((d.to Msg)[i]).body := by
  obtain ⟨r, h1, ⟨a, b, c, d', e, f, v, w, rfl, hv, hw⟩, h3⟩ := h.row hi
  rw [h3]
  obtain ⟨p1, p2, p3, rfl⟩ := hv.slc
  obtain ⟨q1, q2, q3, rfl⟩ := hw.slc
  have e : ∀ j, d.cellAt i j = ([.int .i64 a, .int .i64 b, .int .i64 c, .int .i64 d', .int .i64 e, .int .i64 f, .slc p1 p2 p3, .slc q1 q2 q3] : List D)[j]? := fun j => by simp [D.cellAt, h1]
  simp only [D.HasCells, D.HasCell, D.getInt, D.cell, e]
  refine ⟨⟨⟨_, rfl⟩, ⟨_, rfl⟩, ⟨_, rfl⟩, ⟨_, rfl⟩, ⟨_, rfl⟩, ⟨_, rfl⟩, ⟨_, _, _, rfl⟩, ⟨_, _, _, rfl⟩, trivial⟩, rfl, rfl, rfl, rfl, rfl, rfl, hv, rfl, hw, rfl⟩

/-- A source, a target, a message as values. -/
noncomputable def srcSV (d : D) (s : Src) : SV := .agg [.int .i64 s.epoch, .int .i64 s.site, .dat (d.like s.offered), .int .i64 s.stored, .int .i64 s.applied]
def tgtSV (t : Tgt) : SV := .agg [.int .i64 t.epoch, .int .i64 t.site, .int .i64 t.stored, .int .i64 t.applied]

structure SrcD where
  e : Int
  s : Int
  d : D
  st : Int
  ap : Int
def SrcD.src (x : SrcD) : Src := ⟨x.e, x.s, x.d.to Int, x.st, x.ap⟩

def rdSrc : Rd1 SrcD where
  read x := match x with
    | .agg [.int .i64 e, .int .i64 s, o, .int .i64 st, .int .i64 ap] => match rdD.read o with
      | some d => some ⟨e, s, d, st, ap⟩
      | none => none
    | _ => none
  canon x := .agg [.int .i64 x.e, .int .i64 x.s, .dat x.d, .int .i64 x.st, .int .i64 x.ap]
  right H E x b h hok := by
    split at h
    · split at h
      · rename_i hd
        cases h
        obtain ⟨h1, h2⟩ := rdD.right H E _ _ hd hok.2.2.1
        exact ⟨by simp only [SV.den, SV.denL, h1, rdD], trivial, trivial, h2, trivial, trivial, trivial⟩
      · cases h
    · cases h

def rdTgt : Rd1 Tgt where
  read x := match x with
    | .agg [.int .i64 e, .int .i64 s, .int .i64 st, .int .i64 ap] => some ⟨e, s, st, ap⟩
    | _ => none
  canon := tgtSV
  right H E x b h hok := by
    split at h
    · cases h; exact ⟨rfl, by simp [tgtSV, SV.Ok, SV.OkL]⟩
    · cases h

structure MsgD where
  a : Int
  b : Int
  c : Int
  d : Int
  e : Int
  f : Int
  v : D
  w : D
def MsgD.msg (x : MsgD) : Msg := ⟨x.a, x.b, x.c, x.d, x.e, x.f, x.v.to Int, x.w.to Byte⟩

def rdMsg : Rd1 MsgD where
  read x := match x with
    | .agg [.int .i64 a, .int .i64 b, .int .i64 c, .int .i64 d, .int .i64 e, .int .i64 f, v, w] => match rdD.read v, rdD.read w with
      | some v, some w => some ⟨a, b, c, d, e, f, v, w⟩
      | _, _ => none
    | _ => none
  canon x := .agg [.int .i64 x.a, .int .i64 x.b, .int .i64 x.c, .int .i64 x.d, .int .i64 x.e, .int .i64 x.f, .dat x.v, .dat x.w]
  right H E x b h hok := by
    split at h
    · split at h
      · rename_i hv hw
        cases h
        obtain ⟨h1, h2⟩ := rdD.right H E _ _ hv hok.2.2.2.2.2.2.1
        obtain ⟨h3, h4⟩ := rdD.right H E _ _ hw hok.2.2.2.2.2.2.2.1
        exact ⟨by simp only [SV.den, SV.denL, h1, h3, rdD], trivial, trivial, trivial, trivial, trivial, trivial, h2, h4, trivial⟩
      · cases h
    · cases h

def idxF (l : List Int) (n : Int) : Int := match l.findIdx? (fun x => n == x) with
  | some i => i
  | none => -1

def spHas (x : D × Int) : SpecR := .scalar [x.1.Is Int ∧ x.1.len ≤ 1048576] (.bool ((x.1.to Int).contains x.2))
def spIdx (x : D × Int) : SpecR := .scalar [x.1.Is Int ∧ x.1.len ≤ 1048576] (.int .i64 (idxF (x.1.to Int) x.2))
def spCS (x : SrcD) : SpecR := .scalar [x.d.Is Int] (.int .i64 (checkSource x.src))
def spRel (x : SrcD) : SpecR := .scalar [x.d.Is Int] (.int .i64 (releasable x.src))
def spCT (x : Tgt) : SpecR := .scalar [] (.int .i64 (checkTarget x))
def spSame (x : SrcD × SrcD) : SpecR := .scalar [x.1.d.Is Int ∧ x.2.d.Is Int ∧ x.1.d.len ≤ 1048576] (.bool (decide (x.1.src = x.2.src)))
def spToTarget (x : SrcD × Int × Int) : SpecR := .data [] fun _ => .agg [.int .i64 x.2.1, .int .i64 0, .int .i64 x.1.s, .int .i64 x.2.2, .int .i64 0, .int .i64 x.1.e, .nils, .nils]
noncomputable def spToSource (x : Tgt × Int × Int) : SpecR := .data [] fun ds => .dat ((ds 0).like [toSource x.1 x.2.1 x.2.2])
noncomputable def spOffered (x : Tgt) : SpecR := .data [] fun ds => .dat ((ds 0).like [toSource x 9 x.stored])
noncomputable def spCommitted (x : Tgt) : SpecR := .data [] fun ds => .dat ((ds 0).like [toSource x 11 x.applied])
noncomputable def spNewS (x : Int × Int × Int) : SpecR := .data [] fun ds => .tup [srcSV (ds 0) (newSource x.1 x.2.1 x.2.2).1, .int .i64 (newSource x.1 x.2.1 x.2.2).2]
def spNewT (x : Int × Int × Int) : SpecR := .data [] fun _ => .tup [tgtSV (newTarget x.1 x.2.1 x.2.2).1, .int .i64 (newTarget x.1 x.2.1 x.2.2).2]
noncomputable def spOffer (x : SrcD × Int) : SpecR := .data [x.1.d.Is Int] fun ds => .tup [srcSV (ds 0) (offer x.1.src x.2).1, .dat ((ds 1).like (offer x.1.src x.2).2.1), .int .i64 (offer x.1.src x.2).2.2]
noncomputable def spStore (f : Tgt → Int → Tgt × List Msg × Int) (x : Tgt × Int) : SpecR := .data [] fun ds => .tup [tgtSV (f x.1 x.2).1, .dat ((ds 0).like (f x.1 x.2).2.1), .int .i64 (f x.1 x.2).2.2]
noncomputable def spAnswer (x : Tgt × MsgD) : SpecR := .data [] fun ds => .tup [tgtSV (answer x.1 x.2.msg).1, .dat ((ds 0).like (answer x.1 x.2.msg).2)]
noncomputable def spLearn (x : SrcD × MsgD) : SpecR := .data [x.1.d.Is Int] fun ds => .tup [srcSV (ds 0) (learn x.1.src x.2.msg).1, .dat ((ds 1).like (learn x.1.src x.2.msg).2)]
noncomputable def spResend (x : SrcD) : SpecR := .data [x.d.Is Int] fun ds => .dat ((ds 0).like (resend x.src))
def spSameMsg (x : MsgD × MsgD) : SpecR := .scalar [x.1.v.Is Int ∧ x.2.v.Is Int ∧ x.1.w.Is Byte ∧ x.2.w.Is Byte ∧ x.1.v.len ≤ 1048576 ∧ x.1.w.to Byte = [] ∧ x.2.w.to Byte = []] (.bool (decide (x.1.msg = x.2.msg)))
noncomputable def spSameMsgs (x : D × D) : SpecR := .scalar [x.1.Is Msg ∧ x.2.Is Msg ∧ x.1.len ≤ 1048576 ∧ (∀ m, m ∈ x.1.to Msg → m.body = [] ∧ m.values = []) ∧ ∀ m, m ∈ x.2.to Msg → m.body = []] (.bool (decide (x.1.to Msg = x.2.to Msg)))
end Sx
end
section
/- Layer 32: how its arguments read. -/
open Go
namespace Sx
abbrev tsI : TS := .int .i64
abbrev tsSrc : List TS := [tsI, tsI, .slc tsI, tsI, tsI]
abbrev tsTgt : List TS := [tsI, tsI, tsI, tsI]
abbrev tsMsg : List TS := [tsI, tsI, tsI, tsI, tsI, tsI, .slc tsI, .slc (.int .u8)]

theorem sh_ints {d : D} (h : TS.Sh (.slc tsI) [d]) : d.Is Int ∧ d.IsSlc ∧ d.len ≤ maxLen := by
  simp only [TS.Sh] at h
  obtain ⟨a, s, rows, h1, h2, h3, h4⟩ := h
  simp only [List.cons.injEq, and_true] at h1
  subst h1
  exact ⟨⟨a, s, rows, rfl, h2.imp id fun h => by rw [h]; rfl, fun r hr => by obtain ⟨n, rfl, _⟩ := h4 r hr; exact ⟨n, rfl⟩⟩, ⟨_, _, _, rfl⟩, h3⟩
theorem sh_bytes {d : D} (h : TS.Sh (.slc (.int .u8)) [d]) : d.Is Byte ∧ d.IsSlc ∧ d.len ≤ maxLen := by
  simp only [TS.Sh] at h
  obtain ⟨a, s, rows, h1, h2, h3, h4⟩ := h
  simp only [List.cons.injEq, and_true] at h1
  subst h1
  exact ⟨⟨a, s, rows, rfl, h2.imp id fun h => by rw [h]; rfl, fun r hr => by obtain ⟨n, rfl, _⟩ := h4 r hr; exact ⟨n, rfl⟩⟩, ⟨_, _, _, rfl⟩, h3⟩

theorem sh_slc {e : TS} {ds : List D} (h : TS.Sh (.slc e) ds) : ∃ d, ds = [d] ∧ TS.Sh (.slc e) [d] := by
  have h' := h
  simp only [TS.Sh] at h
  obtain ⟨a, s, rows, rfl, _⟩ := h
  exact ⟨_, rfl, h'⟩
theorem sh_int {k : IntKind} {ds : List D} (h : TS.Sh (.int k) ds) : ∃ n, ds = [.int k n] ∧ (Lit.int k n).wf = true := by simpa only [TS.Sh] using h

theorem sh_src {ds : List D} (h : TS.ShL tsSrc ds) : ∃ e s d st ap, ds = [.int .i64 e, .int .i64 s, d, .int .i64 st, .int .i64 ap] ∧ d.Is Int ∧ d.IsSlc := by
  simp only [TS.ShL] at h
  obtain ⟨_, _, rfl, h1, _, _, rfl, h2, _, _, rfl, h3, _, _, rfl, h4, _, _, rfl, h5, rfl⟩ := h
  obtain ⟨e, rfl, _⟩ := sh_int h1
  obtain ⟨s, rfl, _⟩ := sh_int h2
  obtain ⟨d, rfl, h3⟩ := sh_slc h3
  obtain ⟨st, rfl, _⟩ := sh_int h4
  obtain ⟨ap, rfl, _⟩ := sh_int h5
  exact ⟨e, s, d, st, ap, rfl, (sh_ints h3).1, (sh_ints h3).2.1⟩
theorem sh_tgt {ds : List D} (h : TS.ShL tsTgt ds) : ∃ e s st ap, ds = [.int .i64 e, .int .i64 s, .int .i64 st, .int .i64 ap] := by
  simp only [TS.ShL] at h
  obtain ⟨_, _, rfl, h1, _, _, rfl, h2, _, _, rfl, h4, _, _, rfl, h5, rfl⟩ := h
  obtain ⟨e, rfl, _⟩ := sh_int h1
  obtain ⟨s, rfl, _⟩ := sh_int h2
  obtain ⟨st, rfl, _⟩ := sh_int h4
  obtain ⟨ap, rfl, _⟩ := sh_int h5
  exact ⟨e, s, st, ap, rfl⟩
theorem sh_msg {ds : List D} (h : TS.ShL tsMsg ds) : ∃ a b c d e f v w, ds = [.int .i64 a, .int .i64 b, .int .i64 c, .int .i64 d, .int .i64 e, .int .i64 f, v, w] ∧ v.Is Int ∧ v.IsSlc ∧ w.Is Byte ∧ w.IsSlc := by
  simp only [TS.ShL] at h
  obtain ⟨_, _, rfl, h1, _, _, rfl, h2, _, _, rfl, h3, _, _, rfl, h4, _, _, rfl, h5, _, _, rfl, h6, _, _, rfl, h7, _, _, rfl, h8, rfl⟩ := h
  obtain ⟨a, rfl, _⟩ := sh_int h1
  obtain ⟨b, rfl, _⟩ := sh_int h2
  obtain ⟨c, rfl, _⟩ := sh_int h3
  obtain ⟨d, rfl, _⟩ := sh_int h4
  obtain ⟨e, rfl, _⟩ := sh_int h5
  obtain ⟨f, rfl, _⟩ := sh_int h6
  obtain ⟨v, rfl, h7⟩ := sh_slc h7
  obtain ⟨w, rfl, h8⟩ := sh_slc h8
  exact ⟨a, b, c, d, e, f, v, w, rfl, (sh_ints h7).1, (sh_ints h7).2.1, (sh_bytes h8).1, (sh_bytes h8).2.1⟩
end Sx
end
section
/- What layer 21 computes; its values as symbols. -/
open Go
namespace Sx

/-- A coordinator. -/
structure Co where
  nodes : Int
  round : Int
  phase : Int
  deadline : Int
  positions : List Int
  seen : List Bool
  valid : Bool
deriving DecidableEq

def badPos (p : Int) : Bool := decide (p < 0) || decide (p > 4096)

def checkCo (c : Co) : Int :=
  if c.nodes < 1 ∨ c.nodes > 8 ∨ okTime c.round = false ∨ okTime c.deadline = false ∨ c.phase < 0 ∨ c.phase > 2 then 3
  else if (c.positions.length : Int) ≠ c.nodes ∨ (c.seen.length : Int) ≠ c.nodes ∨ (c.valid = true ∧ c.phase ≠ 0) then 3
  else if c.positions.any badPos = true then 3
  else 0

def newCo (n : Int) : Co × Int := if n < 1 ∨ n > 8 then (⟨0, 0, 0, 0, [], [], false⟩, 2) else (⟨n, 0, 0, 0, List.replicate n.toNat 0, List.replicate n.toNat false, false⟩, 0)
def zCo : Co := ⟨0, 0, 0, 0, [], [], false⟩

/-- A message to all nodes. -/
def allMsgs (c : Co) (kind : Int) : List Msg := (List.range c.nodes.toNat).map fun (i : Nat) => ⟨kind, c.nodes, (i : Int), c.round, 0, 0, [], []⟩

def startCo (c : Co) (now patience : Int) : Co × List Msg × Int :=
  if checkCo c ≠ 0 then (zCo, [], 3)
  else if okTime now = false ∨ patience < 1 ∨ patience > 1073741824 - now then (zCo, [], 24)
  else if c.phase ≠ 0 then (zCo, [], 26)
  else if c.round = 1073741824 then (zCo, [], 6)
  else
    let n : Co := { (newCo c.nodes).1 with round := c.round + 1, phase := 1, deadline := now + patience }
    (n, allMsgs n 1, 0)

def resultCo (c : Co) : List Int × Bool := if checkCo c ≠ 0 ∨ c.valid = false then ([], false) else (c.positions, true)

structure CoD where
  n : Int
  r : Int
  p : Int
  dl : Int
  d : D
  s : D
  v : Bool
def CoD.co (x : CoD) : Co := ⟨x.n, x.r, x.p, x.dl, x.d.to Int, x.s.to Bool, x.v⟩

def rdCo : Rd1 CoD where
  read x := match x with
    | .agg [.int .i64 n, .int .i64 r, .int .i64 p, .int .i64 dl, d, s, v] => match rdD.read d, rdD.read s, rdBool.read v with
      | some d, some s, some v => some ⟨n, r, p, dl, d, s, v⟩
      | _, _, _ => none
    | _ => none
  canon x := .agg [.int .i64 x.n, .int .i64 x.r, .int .i64 x.p, .int .i64 x.dl, .dat x.d, .dat x.s, .bool x.v]
  right H E x b h hok := by
    split at h
    · split at h
      · rename_i hd hs hv
        cases h
        obtain ⟨h1, h2⟩ := rdD.right H E _ _ hd hok.2.2.2.2.1
        obtain ⟨h3, h4⟩ := rdD.right H E _ _ hs hok.2.2.2.2.2.1
        obtain ⟨h5, h6⟩ := rdBool.right H E _ _ hv hok.2.2.2.2.2.2.1
        exact ⟨by simp only [SV.den, SV.denL, h1, h3, h5, rdD, rdBool], trivial, trivial, trivial, trivial, h2, h4, trivial, trivial⟩
      · cases h
    · cases h

/-- A function without anything captured. -/
def rdFn (f : FuncId) : Rd1 Unit where
  read x := match x with
    | .fn g [] [] => if g == f then some () else none
    | _ => none
  canon _ := .fn f [] []
  right H E x b h hok := by
    split at h
    · split at h
      · rename_i hg
        simp at hg
        subst hg
        exact ⟨rfl, trivial, trivial⟩
      · cases h
    · cases h

def idxP (l : List Int) (p : Int → Bool) : Int := match l.findIdx? p with
  | some i => i
  | none => -1

def spIdxBad (x : D × Unit) : SpecR := .scalar [x.1.Is Int ∧ x.1.len ≤ 1048576] (.int .i64 (idxP (x.1.to Int) badPos))
def spAnyBad (x : D × Unit) : SpecR := .scalar [x.1.Is Int ∧ x.1.len ≤ 1048576] (.bool ((x.1.to Int).any badPos))
def spCC (x : CoD) : SpecR := .scalar [x.d.Is Int ∧ x.s.Is Bool] (.int .i64 (checkCo x.co))
def spSameInts (x : D × D) : SpecR := .scalar [x.1.Is Int ∧ x.2.Is Int ∧ x.1.len ≤ 1048576] (.bool (decide (x.1.to Int = x.2.to Int)))
noncomputable def coSV (d s : D) (c : Co) : SV := .agg [.int .i64 c.nodes, .int .i64 c.round, .int .i64 c.phase, .int .i64 c.deadline, .dat (d.like c.positions), .dat (s.like c.seen), .bool c.valid]
noncomputable def spNewCo (n : Int) : SpecR := .data [] fun ds => .tup [coSV (ds 0) (ds 1) (newCo n).1, .int .i64 (newCo n).2]
end Sx
end
section
/- Contracts of functions that hand back a slice of their own; contracts of functions that read through a pointer. -/
namespace Sx
open Go RowKit

/-- A walk that rests where its fuel ends. -/
noncomputable def execT (P : Program) (cs : Ctrs) (U : FuncId → Bool) (n : Nat) : Conf → Tree :=
  Nat.rec (motive := fun _ => Conf → Tree) (fun c => .leaf c) (fun _ ih c => stepC P cs U ih c) n

section
variable {P : Program} {C : Ctx} {cs : Ctrs} {R : Value → World → Prop}

theorem execT_sound (hcs : cs.Ok P) (U : FuncId → Bool) : ∀ (n : Nat) (c : Conf), (execT P cs U n c).holds P C R → Runs P C c R
  | 0, _, h => h
  | n + 1, c, h => step_sound (U := U) (ih := execT P cs U n) hcs (fun c h => execT_sound hcs U n c h) c h

/-- A return from the lowest frame: all that is one's own is still there. -/
theorem runs_ret {fn : FuncId} {aw : Option Tmp} {k : List Item} {tmps : List SV} {mem : Mem} {f : Func} {l : List SV} (hfn : P.funcs[fn]? = some f) (hres : resS P mem tmps f.results.toList = some l)
    (h : ∀ E H w, Good C mem E H w → (one? l).Ok H → R ((one? l).den E) w) : Runs P C ⟨⟨fn, none, aw, .code .ret :: k, tmps⟩, [], mem⟩ R := by
  intro E H w g ok
  obtain ⟨h1, h2⟩ := run_results (P := P) g ok.1 hres
  rw [stkRun_eq]
  simp only [SFrm.den, CFrm.run, List.map_nil, restOf]
  exact Go1.ret hfn rfl h1 (h E H w g h2)

/-- A slice of one's own, in a world whose old memory is as it was. -/
def OwnR (w : World) (H : HV) (e : TypeId) (mk : D → D) (u : Value) (w' : World) : Prop :=
  ∃ E1 H' k h, u = (SV.vec k).den E1 ∧ Good ⟨w, H⟩ [(k, .arr e (mk h))] E1 H' w'

/-- What a contract says of its arguments: what must hold, the kind of the elements, the rows (their header is given). -/
abbrev OSpec := List SV → Option (List Prop × TypeId × (D → D))

def OLaw (P : Program) (f : FuncId) (spec : OSpec) : Prop :=
  Bodied P f = true ∧ ∀ (H : HV) (E : Env) (args : List SV), SV.OkL H args →
    match spec args with
    | some (ps, e, mk) => (∀ p, p ∈ ps → p) → ∀ w, InMem H w → Calls P f (SV.denL E args).toArray w fun r w' => ∃ u, r = .returned u ∧ OwnR w H e mk u w'
    | none => True

def oCtr (spec : OSpec) : Ctr := fun args key m =>
  match spec (closeL (pubsR (leavesL args) m) args) with
  | some (ps, e, mk) => .all ps fun hs => (.vec key, (key, .arr e (mk (hs 0))) :: pubsR (leavesL args) m)
  | none => .bad

theorem keysEq_len : ∀ {a b : Mem}, keysEq a b = true → a.length = b.length
  | [], [], _ => rfl
  | [], _ :: _, h => by simp [keysEq] at h
  | _ :: _, [], h => by simp [keysEq] at h
  | _ :: r, _ :: s, h => by
    simp only [keysEq, Bool.and_eq_true] at h
    simp only [List.length_cons, keysEq_len h.2]

theorem oCtr_ro {spec : OSpec} : CtrRO (oCtr spec) := by
  intro args key m h
  unfold oCtr
  cases hs : spec (closeL (pubsR (leavesL args) m) args) with
  | none => trivial
  | some x =>
    obtain ⟨ps, e, mk⟩ := x
    simp only
    intro hs hk
    have := keysEq_len hk
    simp [pubsR_ro h] at this

theorem ownsRow_mono {w : World} {a b : Nat} {e : TypeId} {sz : Nat} {v : Value} {n : Nat} {xs : List Value} (h : w.ownsRow a e sz v n xs) (hb : b ≤ a) : w.ownsRow b e sz v n xs := by
  obtain ⟨h1, h2⟩ := h
  refine ⟨h1, h2.imp id fun ⟨g, cap, cur, h3, h4, h5⟩ => ⟨g, cap, cur, h3, Nat.le_trans hb h4, h5⟩⟩

theorem oCtr_ok {f : FuncId} {spec : OSpec} (h : OLaw P f spec) : CtrOk P f (oCtr spec) := by
  refine ⟨bodied_spec h.1, fun C E H w args key m g hargs hk hk2 => ?_, oCtr_ro⟩
  obtain ⟨H1, hle, g1, nw⟩ := pubsR_spec (leavesL args) g
  have hpm := pubsR_mem (leavesL args) (m := m)
  obtain ⟨e1, e2⟩ := closeL_spec g1 args (SV.OkL.mono hle _ hargs)
  have hl := h.2 H1 E _ e2
  unfold CallRight oCtr
  cases hs : spec (closeL (pubsR (leavesL args) m) args) with
  | none => simp
  | some x =>
    obtain ⟨ps, e, mk⟩ := x
    simp only [hs] at hl ⊢
    intro hp
    have hc := hl hp w g1.cell
    rw [e1] at hc
    refine Calls.mono hc fun r w' ⟨u, hr, E1, H', k, hd, hu, g2⟩ => ?_
    have g3 := g1.call g2.below g2.ext g2.fresh g2.cell
    have o2 := g2.own k _ (List.mem_singleton.2 rfl)
    have ha := E.agree_setV key (E1.b k) (E1.v k)
    have hk' := has_pubsR (leavesL args) hk
    have hbE : (E.setV key (E1.b k) (E1.v k)).b key = E1.b k := by simp [Env.setV]
    have hvE : (E.setV key (E1.b k) (E1.v k)).v key = E1.v k := by simp [Env.setV]
    obtain ⟨hh, sz, rows, q1, q2, q3, q4, q5, q6⟩ := o2
    have hlow : OBlk.Lies (.arr e (mk hd)) → w.heap.size ≤ E1.b k := by
      intro hl
      rw [q1] at hl q3
      simp only [OBlk.Lies, D.hd] at hl
      cases hh with
      | none => exact absurd rfl hl
      | some ac =>
        obtain ⟨a, c⟩ := ac
        obtain ⟨_, h3⟩ := q3
        have hq6 := (q6 a c rfl).1
        rcases h3 with ⟨h3, _⟩ | ⟨g', cap, cur, h3, h4, _⟩
        · simp [D.val, hval] at h3
        · simp only [D.val, hval, Value.slice.injEq, Option.some.injEq] at h3
          have h5 : E1.b k = g' := by have := h3.1; rw [hq6] at this; exact congrArg Addr.block this
          rw [h5]; exact h4
    have g4 : Good C ((key, .arr e (mk hd)) :: pubsR (leavesL args) m) (E.setV key (E1.b k) (E1.v k)) H' w' := by
      refine g3.cons hk' ha (Below.refl _ _) ⟨hh, sz, rows, q1, by rw [hvE]; exact q2, ownsRow_mono q3 g.below.size, q4, q5, fun a c hac => ?_⟩ (fun hl j p hj hlp => ?_)
      · rw [hbE]; exact q6 a c hac
      · rw [hbE]
        have h1 := hlow hl
        have h2 := (g1.own j p hj).lt hlp
        omega
    refine ⟨fun _ => hd, E.setV key (E1.b k) (E1.v k), H', by rw [hr, hu]; simp [SV.den, hvE], ha, hle.trans g2.ext, g4, by simp [SV.Ok], ?_⟩
    refine ⟨g2.below.size, fun b hb _ => g2.below.block b hb, fun b x v hx => ?_, fun j o hj => ?_, fun j o hj hl => ?_, g2.below.os, g2.below.tape, g2.below.output⟩
    · rcases g2.fresh b x v hx with h1 | h1
      · exact (nw b x v h1).imp id .inr
      · exact .inr (.inl h1)
    · rcases List.mem_cons.1 hj with hj | hj
      · exact Or.inl (congrArg Prod.fst hj)
      · exact .inr (hpm j o hj).1
    · rcases List.mem_cons.1 hj with hj | hj
      · have e1 : j = key := congrArg Prod.fst hj
        have e2 : o = .arr e (mk hd) := congrArg Prod.snd hj
        subst e1; subst e2
        rw [hbE]; exact .inl (hlow hl)
      · refine .inr ⟨j, o, (hpm j o hj).2 hl, hl, ?_⟩
        exact (ha.1 j (Mem.has_key hk' _ hj).1).1

/-- A call, from what its states do. -/
theorem calls_of {f : FuncId} {H : HV} {args : List SV} {w : World} {R : Value → World → Prop} (hb : Bodied P f = true) (hok : SV.OkL H args) (E : Env) (hc : InMem H w)
    (h : Runs P ⟨w, H⟩ (entry P f args) R) : Calls P f (SV.denL E args).toArray w fun e w' => ∃ v, e = .returned v ∧ R v w' := by
  obtain ⟨fn, hfn, hbs, _⟩ := bodied_spec hb
  cases hbody : fn.body with
  | none => rw [hbody] at hbs; cases hbs
  | some b =>
    simp only [entry, hfn, hbody] at h
    have hr := h E H w (good_start hc E) ⟨okL_append hok (by rw [SV.OkL_iff]; intro x hx; rw [List.eq_of_mem_replicate hx]; simp [SV.Ok]), by simp⟩
    rw [stkRun_eq] at hr
    simp only [List.map_nil, restOf, SFrm.den, CFrm.run] at hr
    have e3 : (SV.denL E args).toArray ++ Array.replicate (fn.ntmps - (SV.denL E args).toArray.size) undef = (SV.denL E (args ++ List.replicate (fn.ntmps - args.length) .undef)).toArray := by
      simp [SV.denL_eq, SV.den, ← List.toArray_replicate]
    exact calls_of_go1 (P := P) (f := f) (args := (SV.denL E args).toArray) (w := w) hfn hbody (by rw [e3]; exact hr)

/-- A copy that is one's own. -/
def spClone (α : Type) [Codec α] (e : TypeId) : OSpec := fun args => match args with
  | [x] => match rdD.read x with
    | some d => some ([d.Is α ∧ d.len ≤ 1048576], e, fun h => .slc h.hd (Codec.sz α) d.rows)
    | none => none
  | _ => none

theorem olaw_clone {f : FuncId} {α : Type} [Codec α] {e : TypeId} (hb : Bodied P f = true)
    (h : ∀ (H : HV) (w : World) (d : D), d.Ok H → d.Is α → d.len ≤ 1048576 → Runs P ⟨w, H⟩ (entry P f [.dat d]) (OwnR w H e fun h => .slc h.hd (Codec.sz α) d.rows)) : OLaw P f (spClone α e) := by
  refine ⟨hb, fun H E args hargs => ?_⟩
  unfold spClone
  split
  · rename_i heq
    split at heq
    · rename_i x
      split at heq
      · rename_i d hd
        cases heq
        intro hp w hc
        obtain ⟨h1, h2⟩ := rdD.right H E x d hd hargs.1
        obtain ⟨p1, p2⟩ := hp _ (List.mem_singleton.2 rfl)
        have := calls_of hb (args := [.dat d]) ⟨h2, trivial⟩ E hc (h H w d h2.1 p1 p2)
        have e1 : SV.denL E [x] = SV.denL E [.dat d] := by simp only [SV.denL]; rw [h1]; rfl
        rw [e1]
        exact this
      · cases heq
    · cases heq
  · trivial

/-- The nil slice as rows of one's own. -/
theorem own_nil {w : World} {H : HV} {e : TypeId} {sz : Nat} {mk : D → D} {h : D} (hm : mk h = .slc none sz []) : (Tree.ret .nils).holds P ⟨w, H⟩ (OwnR w H e mk) := by
  intro E H' w' g _
  refine ⟨E.setV 0 0 (none, 0), H', 0, h, by simp [SV.den, Env.setV, hval], ?_⟩
  refine g.cons (by simp [Mem.has]) (E.agree_setV 0 0 (none, 0)) (Below.refl _ _) ?_ (fun _ j p hj _ => by cases hj)
  rw [hm]
  exact ⟨none, sz, [], rfl, by simp [Env.setV], World.ownsRow_nil w' _ e sz, by simp, by simp, by simp⟩

/-- A return of rows of one's own. -/
theorem own_ret {w : World} {H : HV} {e : TypeId} {mk : D → D} {fn : FuncId} {aw : Option Tmp} {k : List Item} {tmps : List SV} {mem : Mem} {f : Func} {j : Nat} {d h : D} (hfn : P.funcs[fn]? = some f)
    (hres : resS P mem tmps f.results.toList = some [.vec j]) (hmem : mem = [(j, .arr e d)]) (hd : d = mk h) : (Tree.leaf ⟨⟨fn, none, aw, .code .ret :: k, tmps⟩, [], mem⟩).holds P ⟨w, H⟩ (OwnR w H e mk) := by
  refine runs_ret hfn hres fun E H' w' g _ => ?_
  subst hmem
  subst hd
  exact ⟨E, H', j, h, rfl, g⟩
end
end Sx
end
section
/- Contracts of functions that read a struct through a pointer. -/
namespace Sx
open Go RowKit

/-- A cell that may be read through a pointer. -/
def cellOk (m : Mem) : SV → Bool
  | .int .. => true
  | .bool _ => true
  | .lb _ => true
  | .str _ => true
  | .nils => true
  | .dat _ => true
  | .vec j => match m.get j with
    | some (.arr ..) => true
    | some (.pub _) => true
    | _ => false
  | _ => false

def cellsOk (m : Mem) : List SV → Bool
  | [] => true
  | c :: r => cellOk m c && cellsOk m r

/-- What a contract says of the cells and the other arguments. -/
abbrev PSpec := List SV → List SV → Option (List Prop × ((Nat → D) → SV))

/-- A struct that is read as a row. -/
def rowD (b : Nat) (row : List D) : D := .slc (some (⟨b, 0, none⟩, 1)) row.length [row]

def PLaw (P : Program) (f : FuncId) (spec : PSpec) : Prop :=
  Bodied P f = true ∧ ∀ (H : HV) (E : Env) (b : Nat) (row : List D) (cs args : List SV), (rowD b row).Ok H → (∀ o, row.length ≤ o → H b o = none) → SV.denL E cs = row.map D.val → SV.OkL H args →
    match spec cs args with
    | some (ps, g) => (∀ p, p ∈ ps → p) → PCall P f H (SV.denL E (.elt (rowD b row) 0 0 :: args)) fun H' u =>
        ∃ hs, u = (g hs).den E ∧ ∀ H2, (∀ b' o v, b' ≠ b → H' b' o = some v → H2 b' o = some v) → (g hs).Ok H2
    | none => True

def pCtr (spec : PSpec) : Ctr := fun args _ m =>
  match args with
  | .ptr k 0 :: rest => match m.get k with
    | some (.cells _ cs) => match cellsOk m cs with
      | true => match spec cs (closeL (pubsR (leavesL rest) m) rest) with
        | some (ps, g) => .all ps fun hs => (g hs, pubsR (leavesL rest) m)
        | none => .bad
      | false => .bad
    | _ => .bad
  | _ => .bad

theorem pCtr_ro {spec : PSpec} : CtrRO (pCtr spec) := by
  intro args key m h
  unfold pCtr
  split
  · rename_i heq
    split at heq
    · split at heq
      · split at heq
        · split at heq <;> cases heq
        · cases heq
      · cases heq
    · cases heq
  · rename_i heq
    split at heq
    · split at heq
      · split at heq
        · split at heq
          · cases heq
            intro hs _
            simp only [pubsR_ro h]
          · cases heq
        · cases heq
      · cases heq
    · cases heq
  · trivial

theorem cell_d {C : Ctx} {m : Mem} {E : Env} {H H' : HV} {w : World} (g : Good C m E H w) (hle : HLe H H') {c : SV} (hc : cellOk m c = true) (hok : c.Ok H) : ∃ d : D, d.val = c.den E ∧ d.Ok H' := by
  cases c <;> simp only [cellOk, Bool.false_eq_true] at hc
  case int k n => exact ⟨.int k n, by simp [D.val, SV.den], .int k n⟩
  case bool b => exact ⟨.bool b, by simp [D.val, SV.den], .bool b⟩
  case lb b => exact ⟨.bool b, by simp [D.val, SV.den], .bool b⟩
  case str s => exact ⟨.str s, by simp [D.val, SV.den], .str s⟩
  case nils => exact ⟨.slc none 0 [], by simp [D.val, hval, SV.den], .nil 0⟩
  case dat d => exact ⟨d, by simp [SV.den], hok.1.mono hle⟩
  case vec j =>
    split at hc
    · rename_i e d hg
      obtain ⟨h, sz, rows, rfl, h2, h3, h4, h5, h6⟩ := g.own j _ (Mem.get_mem hg)
      cases h with
      | none =>
        have hn : rows.length = 0 := by
          rcases h3.2 with h | ⟨g', cap, cur, h, _⟩
          · exact h.2
          · simp [D.val, hval] at h
        exact ⟨.slc none 0 [], by simp [D.val, hval, SV.den, h2], .nil 0⟩
      | some ac =>
        obtain ⟨a, c⟩ := ac
        have hn : rows.length ≤ c := by
          rcases h3.2 with h | ⟨g', cap, cur, h, _, _, hcap, _⟩
          · have := h.1; simp [D.val, hval] at this
          · simp only [D.val, hval, Value.slice.injEq] at h
            rw [h.2.2]; exact hcap
        refine ⟨.slc (some (a, c)) 0 (List.replicate rows.length []), by simp [D.val, hval, SV.den, h2], .slc a c 0 _ (fun _ => by rw [(h6 a c rfl).1]) (by simpa using hn) (fun r hr => by rw [List.eq_of_mem_replicate hr]; rfl) (fun i j r x hi hj => ?_) (fun r hr x hx => ?_)⟩
        · have := List.eq_of_mem_replicate (List.mem_of_getElem? hi)
          subst this
          simp at hj
        · have := List.eq_of_mem_replicate hr
          subst this
          cases hx
    · rename_i d hg
      obtain ⟨⟨h, sz, rows, rfl, h2⟩, h3⟩ := g.own j _ (Mem.get_mem hg)
      exact ⟨_, by simp [D.val, SV.den, h2], h3.mono hle⟩
    · cases hc

theorem cells_d {C : Ctx} {m : Mem} {E : Env} {H H' : HV} {w : World} (g : Good C m E H w) (hle : HLe H H') : ∀ {cs : List SV}, cellsOk m cs = true → SV.OkL H cs → ∃ row : List D, row.map D.val = SV.denL E cs ∧ ∀ d, d ∈ row → d.Ok H'
  | [], _, _ => ⟨[], by simp [SV.denL], by simp⟩
  | c :: r, hc, hok => by
    simp only [cellsOk, Bool.and_eq_true] at hc
    obtain ⟨d, h1, h2⟩ := cell_d g hle hc.1 hok.1
    obtain ⟨row, h3, h4⟩ := cells_d g hle hc.2 hok.2
    refine ⟨d :: row, by simp [SV.denL, h1, h3], fun x hx => ?_⟩
    rcases List.mem_cons.1 hx with rfl | hx
    · exact h2
    · exact h4 x hx

theorem get_pub_cells {m : Mem} {k : Nat} {t : TypeId} {cs : List SV} (h : m.get k = some (.cells t cs)) (x : SV) : (pubR m x).get k = some (.cells t cs) := by
  unfold pubR
  split
  · rename_i j
    split
    · rename_i e d hj
      have hne : k ≠ j := by rintro rfl; rw [h] at hj; cases hj
      rw [Mem.get_set hj]
      simp [hne, h]
    · exact h
  · exact h

theorem get_pubs_cells {k : Nat} {t : TypeId} {cs : List SV} : ∀ (l : List SV) {m : Mem}, m.get k = some (.cells t cs) → (pubsR l m).get k = some (.cells t cs)
  | [], _, h => h
  | x :: r, _, h => get_pubs_cells r (get_pub_cells h x)

theorem pCtr_ok {P : Program} {f : FuncId} {spec : PSpec} (h : PLaw P f spec) : CtrOk P f (pCtr spec) := by
  refine ⟨bodied_spec h.1, fun C E H w args key m g hargs hk hk2 => ?_, pCtr_ro⟩
  unfold CallRight
  have hctr : (∃ k rest t cs ps gg, args = .ptr k 0 :: rest ∧ m.get k = some (.cells t cs) ∧ cellsOk m cs = true ∧ spec cs (closeL (pubsR (leavesL rest) m) rest) = some (ps, gg) ∧
      pCtr spec args key m = .all ps fun hs => (gg hs, pubsR (leavesL rest) m)) ∨ pCtr spec args key m = .bad := by
    unfold pCtr
    split
    · rename_i k rest
      split
      · rename_i t cs hg
        split
        · rename_i hcs
          split
          · rename_i ps gg hs
            exact .inl ⟨k, rest, t, cs, ps, gg, rfl, hg, hcs, hs, rfl⟩
          · exact .inr rfl
        · exact .inr rfl
      · exact .inr rfl
    · exact .inr rfl
  rcases hctr with ⟨k, rest, t, cs, ps, gg, rfl, hget, hcs, hspec, he⟩ | he
  · rw [he]
    simp only
    intro hp
    obtain ⟨H1, hle, g1, nw⟩ := pubsR_spec (leavesL rest) g
    have hpm := pubsR_mem (leavesL rest) (m := m)
    obtain ⟨e1, e2⟩ := closeL_spec g1 rest (SV.OkL.mono hle _ hargs.2)
    obtain ⟨c1, c2, c3, c4⟩ := g1.own k _ (Mem.get_mem (get_pubs_cells (leavesL rest) hget))
    -- the cells as public ones
    let Hp : HV := fun b o => if b = E.b k then (SV.denL E cs)[o]? else H1 b o
    have hHp : HLe H1 Hp := fun b o v hv => by
      have : b ≠ E.b k := by rintro rfl; rw [c3] at hv; cases hv
      simp only [Hp, this, if_false, hv]
    obtain ⟨g0own1, g0own2, g0own3, g0ok⟩ := g.own k _ (Mem.get_mem hget)
    obtain ⟨row, r1, r2⟩ := cells_d g (hle.trans hHp) hcs g0ok
    have hrow : (rowD (E.b k) row).Ok Hp := by
      refine .slc _ 1 _ _ (fun _ => rfl) (by simp) (fun r hr => by rw [List.mem_singleton.1 hr]) (fun i j r x hi hj => ?_) (fun r hr x hx => by rw [List.mem_singleton.1 hr] at hx; exact r2 x hx)
      have hi0 : i = 0 := by
        cases i with
        | zero => rfl
        | succ i => simp at hi
      subst hi0
      simp only [List.getElem?_cons_zero, Option.some.injEq] at hi
      subst hi
      simp only [Hp, if_true, ← r1]
      simp [hj]
    have hmem : InMem Hp w := fun b o v hv => by
      simp only [Hp] at hv
      split at hv
      · rename_i hb
        subst hb
        simp only [World.cell?, c2]
        simpa using hv
      · exact g1.cell b o v hv
    have hl := h.2 Hp E (E.b k) row cs (closeL (pubsR (leavesL rest) m) rest) hrow (fun o ho => by
      have : row.length = (SV.denL E cs).length := by rw [← r1]; simp
      simp only [Hp, if_true]
      exact List.getElem?_eq_none (by omega)) r1.symm (SV.OkL.mono hHp _ e2)
    rw [hspec] at hl
    have hc := hl hp w hmem
    have eargs : SV.denL E (.elt (rowD (E.b k) row) 0 0 :: closeL (pubsR (leavesL rest) m) rest) = SV.denL E (.ptr k 0 :: rest) := by
      simp only [SV.denL, e1, SV.den, rowD, D.addr, D.hd]
      simp
    rw [eargs] at hc
    refine Calls.mono hc fun e w' ⟨u, H', he', ha, hs, hu, hok⟩ => ?_
    let H2 : HV := fun b o => if b = E.b k then none else H' b o
    have hle2 : HLe H1 H2 := fun b o v hv => by
      have hb : b ≠ E.b k := by rintro rfl; rw [c3] at hv; cases hv
      simp only [H2, hb, if_false]
      exact ha.le b o v (hHp b o v hv)
    have hfr : ∀ b o v, H2 b o = some v → H1 b o = some v ∨ w.heap.size ≤ b := fun b o v hv => by
      simp only [H2] at hv
      split at hv
      · cases hv
      · rename_i hb
        rcases ha.fresh b o v hv with h3 | h3
        · simp only [Hp, hb, if_false] at h3; exact .inl h3
        · exact .inr h3
    have hcell : ∀ b o v, H2 b o = some v → w'.cell? ⟨b, o, none⟩ = some v := fun b o v hv => by
      simp only [H2] at hv
      split at hv
      · cases hv
      · exact ha.cell b o v hv
    refine ⟨hs, E, H2, by rw [he', hu], Agree.refl _ _, hle.trans hle2, g1.call ha.below hle2 hfr hcell, hok H2 (fun b' o v hb hv => by simp only [H2, hb, if_false]; exact hv), ha.below.size, fun b hb _ => ha.below.block b hb, fun b x v hv => ?_,
      fun k o h => .inr (hpm k o h).1, fun k o h hl => .inr ⟨k, o, (hpm k o h).2 hl, hl, rfl⟩, ha.below.os, ha.below.tape, ha.below.output⟩
    rcases hfr b x v hv with h1 | h1
    · exact (nw b x v h1).imp id .inr
    · exact .inr (.inl h1)
  · rw [he]; trivial
end Sx
end
section
/- Layer 21: more contracts. -/
open Go
namespace Sx

theorem vecTo {P : Program} {C : Ctx} {R : Value → World → Prop} (K : Nat) (e : TypeId) (sz : Nat) (blk : Option Nat) (off : Nat) {c : Conf} (c' : Conf)
    (hc : (vecIn K e sz blk off c).map (fun c => sortC (renC c)) = some c') (h : Runs P C c' R) : Runs P C c R := by
  cases hv : vecIn K e sz blk off c with
  | none => rw [hv] at hc; cases hc
  | some c2 =>
    rw [hv] at hc
    cases hc
    exact vecIn_sound hv (renC_sound (sortC_sound h))

/-- A message to each node. -/
def msgsTo (n r kind : Int) : List Msg := (List.range n.toNat).map fun (i : Nat) => ⟨kind, n, (i : Int), r, 0, 0, [], []⟩

theorem allMsgs_eq (c : Co) (kind : Int) : allMsgs c kind = msgsTo c.nodes c.round kind := rfl

noncomputable def spAllP : PSpec := fun cs args => match cs with
  | .int .i64 n :: .int .i64 r :: _ => match args with
    | [.int .i64 k] => match cs.length with
      | 7 => some ([n ≤ 8], fun ds => .dat ((ds 0).like (msgsTo n r k)))
      | _ => none
    | _ => none
  | _ => none
noncomputable def spAll2 (x : CoD × Int) : SpecR := .data [x.1.n ≤ 8] fun ds => .dat ((ds 0).like (msgsTo x.1.n x.1.r x.2))

noncomputable def spRes (x : CoD) : SpecR := .data [x.d.Is Int ∧ x.s.Is Bool] fun ds => .tup [.dat ((ds 0).like (resultCo x.co).1), .bool (resultCo x.co).2]
noncomputable def spStart (x : CoD × Int × Int) : SpecR := .data [x.1.d.Is Int ∧ x.1.s.Is Bool] fun ds =>
  .tup [coSV (ds 0) (ds 1) (startCo x.1.co x.2.1 x.2.2).1, .dat ((ds 2).like (startCo x.1.co x.2.1 x.2.2).2.1), .int .i64 (startCo x.1.co x.2.1 x.2.2).2.2]
def spSameCo (x : CoD × CoD) : SpecR := .scalar [x.1.d.Is Int ∧ x.1.s.Is Bool ∧ x.2.d.Is Int ∧ x.2.s.Is Bool ∧ x.1.d.len ≤ 1048576 ∧ x.1.s.len ≤ 1048576] (.bool (decide (x.1.co = x.2.co)))
noncomputable def spSameMsgs3 (x : D × D) : SpecR := .scalar [x.1.Is Msg ∧ x.2.Is Msg ∧ x.1.len ≤ 1048576 ∧ (∀ m, m ∈ x.1.to Msg → m.body = [] ∧ m.values = []) ∧ ∀ m, m ∈ x.2.to Msg → m.body = []] (.bool (decide (x.1.to Msg = x.2.to Msg)))
noncomputable def ctB : Ctrs := [(17, ctrOf (rdCo.one.sp spCC)), (18, ctrOf (rdCo.one.sp spCC)), (19, ctrOf (rdInt.one.sp spNewCo)), (20, ctrOf (rdInt.one.sp spNewCo)), (23, ctrOf ((rdD.two rdD).sp spSameInts)),
  (50, pCtr spAllP), (51, ctrOf ((rdCo.two rdInt).sp spAll2)), (54, oCtr (spClone Int 3)), (82, oCtr (spClone Bool 4))]
end Sx
end
section
/- What layer 21 computes of members and messages. -/
open Go
namespace Sx

/-- A member. -/
structure Mb where
  round : Int
  position : Int
  thawed : Int
  issued : Int
  frozen : Bool
  upto : Int
  waiting : List Int
  held : List Int
deriving DecidableEq

def badW (issued : Int) (l : List Int) (i : Nat) : Bool := decide (l.getD i 0 < 0) || decide (l.getD i 0 ≥ issued) || (decide (0 < i) && decide (l.getD i 0 ≤ l.getD (i - 1) 0))
def badH (issued : Int) (w l : List Int) (i : Nat) : Bool := decide (l.getD i 0 < 0) || decide (l.getD i 0 ≥ issued) || (l.take i).contains (l.getD i 0) || w.contains (l.getD i 0)

def headMb (m : Mb) : Bool := decide (¬(okTime m.round = false ∨ okTime m.upto = false ∨ m.thawed < 0 ∨ m.thawed > m.round ∨ m.position < 0 ∨ m.position > m.issued ∨ m.issued > 4096 ∨ (m.frozen = false ∧ m.held ≠ [])))

def checkMb (m : Mb) : Int :=
  if headMb m = false then 3
  else if (List.range m.waiting.length).any (badW m.issued m.waiting) = true then 3
  else if (List.range m.held.length).any (badH m.issued m.waiting m.held) = true then 3
  else 0

def issueMb (m : Mb) : Mb × Int :=
  if checkMb m ≠ 0 ∨ m.issued = 4096 then (m, -1) else ({ m with waiting := m.waiting ++ [m.issued], issued := m.issued + 1 }, m.issued)

def thawMb (m : Mb) : Mb × List Int := ({ m with frozen := false, held := [] }, m.held)

def ansTo (msg : Msg) (kind value : Int) : List Msg := [⟨kind, msg.to, msg.frm, msg.number, value, 0, [], []⟩]

def endMb (m : Mb) (now : Int) (msg : Msg) : Mb × List Int × List Msg :=
  if m.frozen = false then (m, [], ansTo msg 4 (if m.thawed = m.round then 1 else 0))
  else if now < m.upto then ({ m with thawed := m.round, frozen := false, held := [] }, m.held, ansTo msg 4 1)
  else ({ m with frozen := false, held := [] }, m.held, ansTo msg 4 0)

def clampT (lo n : Int) : Int := min (max n lo) 1073741824

def obeyMb (m : Mb) (now patience : Int) (msg : Msg) : Mb × List Int × List Msg :=
  if checkMb m ≠ 0 ∨ msg.number < 1 ∨ msg.number > 1073741824 then (m, [], [])
  else if msg.kind = 1 then
    if msg.number > m.round then ({ m with round := msg.number, position := m.issued, frozen := true, upto := min (clampT 0 now + clampT 1 patience) 1073741824 }, [], ansTo msg 2 m.issued)
    else if msg.number = m.round ∧ m.frozen = true then (m, [], ansTo msg 2 m.position)
    else (m, [], [])
  else if msg.kind = 3 then
    if msg.number = m.round then endMb m (clampT 0 now) msg
    else if msg.number > m.round then (m, [], ansTo msg 4 0)
    else (m, [], [])
  else if msg.kind = 24 then
    if msg.number = m.round ∧ m.frozen = true then ({ m with frozen := false, held := [] }, m.held, [])
    else (m, [], [])
  else (m, [], [])

def giveUpCo (c : Co) : Co × List Msg := ({ c with phase := 0, valid := false }, msgsTo c.nodes c.round 24)

def collectCo (c : Co) (now : Int) (m : Msg) : Co × List Msg :=
  if checkCo c ≠ 0 ∨ c.phase = 0 ∨ now ≥ c.deadline ∨ m.frm < 0 ∨ m.frm ≥ c.nodes ∨ m.number ≠ c.round then (c, [])
  else if m.kind = 2 then
    if c.phase ≠ 1 ∨ m.value < 0 ∨ m.value > 4096 ∨ c.seen.getD m.frm.toNat true = true then (c, [])
    else if (c.seen.set m.frm.toNat true).all id = true then
      ({ c with positions := c.positions.set m.frm.toNat m.value, phase := 2, seen := List.replicate c.nodes.toNat false }, msgsTo c.nodes c.round 3)
    else ({ c with positions := c.positions.set m.frm.toNat m.value, seen := c.seen.set m.frm.toNat true }, [])
  else if m.kind = 4 then
    if c.phase ≠ 2 then (c, [])
    else if m.value ≠ 1 then giveUpCo c
    else if (c.seen.set m.frm.toNat true).all id = true then ({ c with seen := c.seen.set m.frm.toNat true, phase := 0, valid := true }, [])
    else ({ c with seen := c.seen.set m.frm.toNat true }, [])
  else (c, [])

def expireCo (c : Co) (now : Int) : Co × List Msg := if checkCo c ≠ 0 ∨ c.phase = 0 ∨ now < c.deadline then (c, []) else giveUpCo c

structure MbD where
  r : Int
  p : Int
  t : Int
  i : Int
  f : Bool
  u : Int
  w : D
  h : D
def MbD.mb (x : MbD) : Mb := ⟨x.r, x.p, x.t, x.i, x.f, x.u, x.w.to Int, x.h.to Int⟩

def rdMb : Rd1 MbD where
  read x := match x with
    | .agg [.int .i64 r, .int .i64 p, .int .i64 t, .int .i64 i, f, .int .i64 u, w, h] => match rdBool.read f, rdD.read w, rdD.read h with
      | some f, some w, some h => some ⟨r, p, t, i, f, u, w, h⟩
      | _, _, _ => none
    | _ => none
  canon x := .agg [.int .i64 x.r, .int .i64 x.p, .int .i64 x.t, .int .i64 x.i, .bool x.f, .int .i64 x.u, .dat x.w, .dat x.h]
  right H E x b h hok := by
    split at h
    · split at h
      · rename_i hf hw hh
        cases h
        obtain ⟨h1, h2⟩ := rdBool.right H E _ _ hf hok.2.2.2.2.1
        obtain ⟨h3, h4⟩ := rdD.right H E _ _ hw hok.2.2.2.2.2.2.1
        obtain ⟨h5, h6⟩ := rdD.right H E _ _ hh hok.2.2.2.2.2.2.2.1
        exact ⟨by simp only [SV.den, SV.denL, h1, h3, h5, rdD, rdBool], trivial, trivial, trivial, trivial, trivial, trivial, h4, h6, trivial⟩
      · cases h
    · cases h

noncomputable def mbSV (w h : D) (m : Mb) : SV := .agg [.int .i64 m.round, .int .i64 m.position, .int .i64 m.thawed, .int .i64 m.issued, .bool m.frozen, .int .i64 m.upto, .dat (w.like m.waiting), .dat (h.like m.held)]

def MbD.Right (x : MbD) : Prop := x.w.Is Int ∧ x.h.Is Int ∧ x.w.len ≤ 1048575 ∧ x.h.len ≤ 1048575

def spHas21 (x : D × Int) : SpecR := .scalar [x.1.Is Int ∧ x.1.len ≤ 1048576] (.bool ((x.1.to Int).contains x.2))
def spIdx21 (x : D × Int) : SpecR := .scalar [x.1.Is Int ∧ x.1.len ≤ 1048576] (.int .i64 (idxP (x.1.to Int) fun y => x.2 == y))
def spEvery (x : D) : SpecR := .scalar [x.Is Bool ∧ x.len ≤ 1048576] (.bool ((x.to Bool).all id))
def spCM (x : MbD) : SpecR := .scalar [x.Right] (.int .i64 (checkMb x.mb))
noncomputable def spIssue (x : MbD) : SpecR := .data [x.Right] fun ds => .tup [mbSV (ds 0) (ds 1) (issueMb x.mb).1, .int .i64 (issueMb x.mb).2]
noncomputable def spThaw (x : MbD) : SpecR := .data [x.Right] fun ds => .tup [mbSV (ds 0) (ds 1) (thawMb x.mb).1, .dat ((ds 2).like (thawMb x.mb).2)]
noncomputable def spAns (x : MsgD × Int × Int) : SpecR := .data [] fun ds => .dat ((ds 0).like (ansTo x.1.msg x.2.1 x.2.2))
noncomputable def spEnd (x : MbD × Int × MsgD) : SpecR := .data [x.1.Right] fun ds =>
  .tup [mbSV (ds 0) (ds 1) (endMb x.1.mb x.2.1 x.2.2.msg).1, .dat ((ds 2).like (endMb x.1.mb x.2.1 x.2.2.msg).2.1), .dat ((ds 3).like (endMb x.1.mb x.2.1 x.2.2.msg).2.2)]
noncomputable def spObey (x : MbD × Int × Int × MsgD) : SpecR := .data [x.1.Right] fun ds =>
  .tup [mbSV (ds 0) (ds 1) (obeyMb x.1.mb x.2.1 x.2.2.1 x.2.2.2.msg).1, .dat ((ds 2).like (obeyMb x.1.mb x.2.1 x.2.2.1 x.2.2.2.msg).2.1), .dat ((ds 3).like (obeyMb x.1.mb x.2.1 x.2.2.1 x.2.2.2.msg).2.2)]
noncomputable def spGive (x : CoD) : SpecR := .data [x.d.Is Int ∧ x.s.Is Bool ∧ x.n ≤ 8] fun ds => .tup [coSV (ds 0) (ds 1) (giveUpCo x.co).1, .dat ((ds 2).like (giveUpCo x.co).2)]
noncomputable def spColl (x : CoD × Int × MsgD) : SpecR := .data [x.1.d.Is Int ∧ x.1.s.Is Bool] fun ds =>
  .tup [coSV (ds 0) (ds 1) (collectCo x.1.co x.2.1 x.2.2.msg).1, .dat ((ds 2).like (collectCo x.1.co x.2.1 x.2.2.msg).2)]
noncomputable def spExp (x : CoD × Int) : SpecR := .data [x.1.d.Is Int ∧ x.1.s.Is Bool] fun ds => .tup [coSV (ds 0) (ds 1) (expireCo x.1.co x.2).1, .dat ((ds 2).like (expireCo x.1.co x.2).2)]
def spSameMb (x : MbD × MbD) : SpecR := .scalar [x.1.Right ∧ x.2.Right] (.bool (decide (x.1.mb = x.2.mb)))
end Sx
end
