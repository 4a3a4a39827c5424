/- A region whose order is drawn, in the symbolic machine. -/
import Derived.Test.YtdiekahpofifeaaKtoOw
import Derived.ProofKit
import Derived.OpenShut
import Derived.Below
import Derived.Carry
import Derived.Deep.Slices
import Derived.ChangeOld
import Derived.Laws.CopyRow
import Derived.KernelRfl
import Derived.Test.YtdiekahpofifeaaProg
set_option linter.all false
section
namespace Sx
open Go RowKit

noncomputable def ordT (P : Program) (cs : Ctrs) (ih : Conf → Tree) (c : Conf) (ops : Array Oper) (ri : Option (Array Oper × List Nat)) (k : List Item) (depth : Nat) (hs : Nat → Nat → D) : Nat → List (Nat × Bool) → Tree
  | 0, _ => .stuck
  | n + 1, dec => match canonR P cs ops depth dec hs (List.range ops.size) (c.top.tmps, c.mem) with
    | .done s es => match checkR ops depth (masks ops.toList []) es s.2 with
      | true => needs (es.flatMap (·.ps)) (ih { c with top := { c.top with ri := ri, todo := k, tmps := s.1 }, mem := s.2 })
      | false => .stuck
    | .ask t b => .br b (ordT P cs ih c ops ri k depth hs n ((t, true) :: dec)) (ordT P cs ih c ops ri k depth hs n ((t, false) :: dec))
    | .bad => .stuck
def depthFor (ops : Array Oper) (c : Conf) : Nat → Nat → Option Nat
  | 0, _ => none
  | n + 1, d => match checkS ops d (masks ops.toList []) (c.top.tmps, c.mem) c.rest with
    | true => some d
    | false => depthFor ops c n (d + 10)
def depthK {β : Type _} : List SFrm → Nat → (Nat → β) → β
  | [], n, k => k n
  | _ :: r, n, k => depthK r (n + 1) k
theorem depthK_eq {β : Type _} : ∀ (r : List SFrm) (n : Nat) (k : Nat → β), depthK r n k = k (n + r.length)
  | [], n, k => rfl
  | _ :: r, n, k => by simp only [depthK, depthK_eq r, List.length_cons]; congr 1; omega
def isElt (ops : Array Oper) (x : Operand) : Bool :=
  match x with
  | .tmp t => ops.toList.any fun o => match o.dst with
    | some d => d == t && (match o.op with
      | .indexAddr .. => true
      | _ => false)
    | none => false
  | _ => false
def bareCall (cs : Ctrs) (ops : Array Oper) : List Oper → Nat → Option Nat
  | [], _ => none
  | o :: r, n => match o.op with
    | .call c => match c.callee with
      | .value (.func f) => match cs.find f with
        | none => some n
        | some _ => bareCall cs ops r (n + 1)
      | .builtin .copy => some n
      | _ => bareCall cs ops r (n + 1)
    | .store _ a _ => match isElt ops a with
      | true => some n
      | false => bareCall cs ops r (n + 1)
    | _ => bareCall cs ops r (n + 1)

noncomputable def drawC (P : Program) (cs : Ctrs) (ih : Conf → Tree) (c : Conf) (ops : Array Oper) (k : List Item) : Tree :=
  match P.follows .mixedOrders && Region.noSelect ops && calmOps ops with
  | true => match bareCall cs ops ops.toList 0 with
    | none => depthK c.rest 1 fun d => match depthFor ops c 40 d with
      | some depth => .all fun hs => ordT P cs ih c ops none k depth hs 12 []
      | none => .stuck
    | some n => match forcedR ops n with
      | true => natF n fun n => depthK c.rest 1 fun d => match depthFor (ops.extract 0 n) c 40 d with
        | some depth => .all fun hs => ordT P cs ih c (ops.extract 0 n) (some (ops, List.range' n (ops.size - n))) k depth hs 12 []
        | none => .stuck
      | false => match floatR ops n with
        | true => natF n fun n => depthK c.rest 1 fun d => match depthFor (ops.extract 0 n) c 40 d with
          | some depth => match depthFor (opsF ops n) c 40 d with
            | some depth' => .all fun h => .br (D.isNil (h 0 0)) (.all fun hs => ordT P cs ih c (ops.extract 0 n) (some (ops, List.range' n (ops.size - n))) k depth hs 12 [])
                (.all fun hs => ordT P cs ih c (opsF ops n) (some (ops, n :: List.range' (n + 2) (ops.size - (n + 2)))) k depth' hs 12 [])
            | none => .stuck
          | none => .stuck
        | false => .stuck
  | false => .stuck

section
variable {P : Program} {C : Ctx} {cs : Ctrs}

theorem depthFor_spec {ops : Array Oper} {c : Conf} : ∀ {n d depth : Nat}, depthFor ops c n d = some depth → checkS ops depth (masks ops.toList []) (c.top.tmps, c.mem) c.rest = true
  | 0, _, _, h => by cases h
  | n + 1, d, depth, h => by
    simp only [depthFor] at h
    split at h
    · rename_i hc; cases h; exact hc
    · exact depthFor_spec h

theorem ordT_sound {R : Value → World → Prop} {ih : Conf → Tree} (hih : ∀ c, (ih c).holds P C R → Runs P C c R) {c : Conf} {ops : Array Oper} {ri : Option (Array Oper × List Nat)} {k : List Item} {depth : Nat} {hs : Nat → Nat → D} :
    ∀ {n : Nat} {dec : List (Nat × Bool)}, (ordT P cs ih c ops ri k depth hs n dec).holds P C R →
      Chk P cs ops depth (c.top.tmps, c.mem) hs fun s => Runs P C ⟨⟨c.top.fn, ri, c.top.await, k, s.1⟩, c.rest, s.2⟩ R
  | 0, _, h => h.elim
  | n + 1, dec, h => by
    simp only [ordT] at h
    split at h
    · rename_i s es hc
      split at h
      · rename_i hk
        obtain ⟨h1, h2⟩ := needs_holds h
        exact chk_of hc hk (fun e he p hp => h1 p (List.mem_flatMap.2 ⟨e, he, hp⟩)) (hih _ h2)
      · exact h.elim
    · rename_i t b hc
      cases b with
      | true => exact ordT_sound hih (h.1 rfl)
      | false => exact ordT_sound hih (h.2 rfl)
    · exact h.elim

theorem drawC_sound (hcs : cs.Ok P) {R : Value → World → Prop} {ih : Conf → Tree} (hih : ∀ c, (ih c).holds P C R → Runs P C c R) {f : FuncId} {aw : Option Tmp} {id : Nat} {ops : Array Oper} {k : List Item}
    {tmps : List SV} {rest : List SFrm} {mem : Mem}
    (h : (drawC P cs ih ⟨⟨f, none, aw, .code (.region id ops true) :: k, tmps⟩, rest, mem⟩ ops k).holds P C R) : Runs P C ⟨⟨f, none, aw, .code (.region id ops true) :: k, tmps⟩, rest, mem⟩ R := by
  unfold drawC at h
  split at h
  · rename_i hc
    simp only [Bool.and_eq_true] at hc
    obtain ⟨⟨hm, hsel⟩, hcalm⟩ := hc
    split at h
    · rw [depthK_eq] at h
      split at h
      · rename_i depth hd
        obtain ⟨c1, c2⟩ := checkS_spec (depthFor_spec hd)
        have hchk : ∀ hs, Chk P cs ops depth (tmps, mem) hs fun s => Runs P C ⟨⟨f, none, aw, k, s.1⟩, rest, s.2⟩ R := fun hs => ordT_sound hih (h hs)
        intro E H w g ok
        rw [stkRun_eq]
        simp only [SFrm.dn, CFrm.run]
        refine Go1.draw hm hcalm ?_
        have gd := g.drew
        exact ord_sound (ri := none) (aw := aw) hcs hchk c1 c2 ops.size [] (Array.replicate ops.size false) [] (fun _ _ => default) (fun _ => ⟨[], .undef, [], none, none, none, none⟩) E H w.drew (by simp) .nil (by simp) (fun j hj => by simp [hj]) trivial
          (by simp) gd ok.1 ok.2 rfl
      · exact h.elim
    · rename_i n hb
      split at h
      · rename_i hf
        rw [natF_eq, depthK_eq] at h
        split at h
        · rename_i depth hd
          obtain ⟨c1, c2⟩ := checkS_spec (depthFor_spec hd)
          have hn := (forcedR_spec hf).1
          have hsz : (ops.extract 0 n).size = n := by simp; omega
          have hchk : ∀ hs, Chk P cs (ops.extract 0 n) depth (tmps, mem) hs fun s => Runs P C ⟨⟨f, some (ops, List.range' n (ops.size - n)), aw, k, s.1⟩, rest, s.2⟩ R := fun hs => ordT_sound hih (h hs)
          intro E H w g ok
          rw [stkRun_eq]
          simp only [SFrm.dn, CFrm.run]
          refine Go1.draw hm hcalm ?_
          have gd := g.drew
          have key := ord_sound (E0 := E) (ri := some (ops, List.range' n (ops.size - n))) (aw := aw) hcs hchk c1 c2 (ops.extract 0 n).size [] (Array.replicate n false) [] (fun _ _ => default) (fun _ => ⟨[], .undef, [], none, none, none, none⟩) E H w.drew (by simp) .nil (by simp; omega)
            (fun j hj => by have : j < n := by omega
                            simp [this]) trivial (by simp) gd ok.1 ok.2 rfl
          rw [hsz] at key
          have := wpAny_head (Q := Qk P (roOf C.x rest) f k (restOf P C.x (rest.map (SFrm.den E)) R)) hf (Q' := Qi P (roOf C.x rest) f (some (ops, List.range' n (ops.size - n))) aw k (restOf P C.x (rest.map (SFrm.den E)) R)) (fun e a w h => h.1) (fun a w h => h.2)
            n [] (Array.replicate n false) (Array.replicate ops.size false) _ w.drew (by simp) .nil (by simp) (by simp) (fun j hj => by simp [hj]) (by simp) (fun j hj => by simp [hj]) key
          rw [show n + (ops.size - n) = ops.size by omega] at this
          exact this
        · exact h.elim
      · split at h
        · rename_i hf
          rw [natF_eq, depthK_eq] at h
          split at h
          · rename_i depth hd
            split at h
            · rename_i depth' hd'
              obtain ⟨c1, c2⟩ := checkS_spec (depthFor_spec hd)
              obtain ⟨c1', c2'⟩ := checkS_spec (depthFor_spec hd')
              have hn := (floatR_spec hf).1
              have hsz : (ops.extract 0 n).size = n := by simp; omega
              have hszF := opsF_size (ops := ops) hn
              -- what is not looked at in one of the two arms may be changed
              have hchkB : ∀ hs, Chk P cs (ops.extract 0 n) depth (tmps, mem) hs fun s => Runs P C ⟨⟨f, some (ops, List.range' n (ops.size - n)), aw, k, s.1⟩, rest, s.2⟩ R := fun hs =>
                ordT_sound hih ((h fun _ _ => .slc none 0 []).1 rfl hs)
              have hchkA : ∀ hs, Chk P cs (opsF ops n) depth' (tmps, mem) hs fun s => Runs P C ⟨⟨f, some (ops, n :: List.range' (n + 2) (ops.size - (n + 2))), aw, k, s.1⟩, rest, s.2⟩ R := fun hs =>
                ordT_sound hih ((h fun _ _ => .slc (some (⟨0, 0, none⟩, 0)) 0 []).2 rfl hs)
              intro E H w g ok
              rw [stkRun_eq]
              simp only [SFrm.dn, CFrm.run]
              refine Go1.draw hm hcalm ?_
              have gd := g.drew
              have keyB := ord_sound (E0 := E) (ri := some (ops, List.range' n (ops.size - n))) (aw := aw) hcs hchkB c1 c2 (ops.extract 0 n).size [] (Array.replicate n false) [] (fun _ _ => default) (fun _ => ⟨[], .undef, [], none, none, none, none⟩) E H w.drew (by simp) .nil (by simp; omega)
                (fun j hj => by have : j < n := by omega
                                simp [this]) trivial (by simp) gd ok.1 ok.2 rfl
              have keyA := ord_sound (E0 := E) (ri := some (ops, n :: List.range' (n + 2) (ops.size - (n + 2)))) (aw := aw) hcs hchkA c1' c2' (opsF ops n).size [] (Array.replicate (n + 1) false) [] (fun _ _ => default) (fun _ => ⟨[], .undef, [], none, none, none, none⟩) E H w.drew (by simp) .nil (by rw [hszF]; simp)
                (fun j hj => by have : j < n + 1 := by omega
                                simp [this]) trivial (by simp) gd ok.1 ok.2 rfl
              rw [hsz] at keyB
              rw [hszF] at keyA
              have := wpAny_float (Q := Qk P (roOf C.x rest) f k (restOf P C.x (rest.map (SFrm.den E)) R)) hf
                (QA := Qi P (roOf C.x rest) f (some (ops, n :: List.range' (n + 2) (ops.size - (n + 2)))) aw k (restOf P C.x (rest.map (SFrm.den E)) R)) (QB := Qi P (roOf C.x rest) f (some (ops, List.range' n (ops.size - n))) aw k (restOf P C.x (rest.map (SFrm.den E)) R))
                (fun e a w h => h.1) (fun e a w h => h.1) (fun a w h => h.2) (fun a w h => h.2)
                n [] (Array.replicate (n + 1) false) (Array.replicate n false) (Array.replicate ops.size false) _ w.drew (by simp) .nil (by simp) (by simp) (fun j hj => by
                  have : j < n + 1 := by omega
                  simp [this]) (by simp) (by simp) (fun j hj => by simp [hj]) (by simp) (fun j hj => by simp [hj]) keyA keyB
              rw [show n + (ops.size - n) = ops.size by omega] at this
              exact this
            · exact h.elim
          · exact h.elim
        · exact h.elim
  · exact h.elim
end
end Sx
end
section
namespace Sx
open Go RowKit

mutual
def SV.ren (ρ : Nat → Nat) : SV → SV
  | .vec k => .vec (ρ k)
  | .ptr k o => .ptr (ρ k) o
  | .velt k s i j => .velt (ρ k) s i j
  | .view k s i j => .view (ρ k) s i j
  | .mapp k => .mapp (ρ k)
  | .agg l => .agg (SV.renL ρ l)
  | .tup l => .tup (SV.renL ρ l)
  | .fn f a c => .fn f (SV.renL ρ a) (SV.renL ρ c)
  | .int k n => .int k n
  | .bool b => .bool b
  | .lb b => .lb b
  | .str s => .str s
  | .nils => .nils
  | .dat d => .dat d
  | .elt d i j => .elt d i j
  | .nilp => .nilp
  | .nilf => .nilf
  | .undef => .undef
  | .junk i => .junk i
  | .raw v => .raw v
def SV.renL (ρ : Nat → Nat) : List SV → List SV
  | [] => []
  | x :: r => SV.ren ρ x :: SV.renL ρ r
end

def OBlk.ren (ρ : Nat → Nat) : OBlk → OBlk
  | .cells t cs => .cells t (SV.renL ρ cs)
  | .map es => .map (es.map fun e => (e.1.ren ρ, e.2.ren ρ))
  | .arr e d => .arr e d
  | .pub d => .pub d

def Ren (ρ : Nat → Nat) (E E' : Env) (k : Nat) : Prop := E'.b (ρ k) = E.b k ∧ E'.v (ρ k) = E.v k

mutual
theorem SV.den_ren {ρ : Nat → Nat} {E E' : Env} (hj : E'.j = E.j) : ∀ x : SV, (∀ k, k ∈ x.keys → Ren ρ E E' k) → (x.ren ρ).den E' = x.den E
  | .vec k, h => by simp only [SV.ren, SV.den, (h k (by simp [SV.keys])).2]
  | .ptr k _, h => by simp only [SV.ren, SV.den, (h k (by simp [SV.keys])).1]
  | .velt k _ _ _, h => by simp only [SV.ren, SV.den, (h k (by simp [SV.keys])).1]
  | .view k _ _ _, h => by simp only [SV.ren, SV.den, (h k (by simp [SV.keys])).2]
  | .mapp k, h => by simp only [SV.ren, SV.den, (h k (by simp [SV.keys])).1]
  | .agg l, h => by simp only [SV.ren, SV.den, SV.denL_ren hj l (by simpa [SV.keys] using h)]
  | .tup l, h => by simp only [SV.ren, SV.den, SV.denL_ren hj l (by simpa [SV.keys] using h)]
  | .fn _ a c, h => by
    simp only [SV.keys, List.mem_append] at h
    simp only [SV.ren, SV.den, SV.denL_ren hj a (fun k hk => h k (.inl hk)), SV.denL_ren hj c (fun k hk => h k (.inr hk))]
  | .int .., _ => by simp [SV.ren, SV.den]
  | .bool _, _ => by simp [SV.ren, SV.den]
  | .lb _, _ => by simp [SV.ren, SV.den]
  | .str _, _ => by simp [SV.ren, SV.den]
  | .nils, _ => by simp [SV.ren, SV.den]
  | .dat _, _ => by simp [SV.ren, SV.den]
  | .elt .., _ => by simp [SV.ren, SV.den]
  | .nilp, _ => by simp [SV.ren, SV.den]
  | .nilf, _ => by simp [SV.ren, SV.den]
  | .undef, _ => by simp [SV.ren, SV.den]
  | .junk _, _ => by simp [SV.ren, SV.den, hj]
  | .raw _, _ => by simp [SV.ren, SV.den]
theorem SV.denL_ren {ρ : Nat → Nat} {E E' : Env} (hj : E'.j = E.j) : ∀ l : List SV, (∀ k, k ∈ SV.keysL l → Ren ρ E E' k) → SV.denL E' (SV.renL ρ l) = SV.denL E l
  | [], _ => by simp [SV.renL, SV.denL]
  | x :: r, h => by
    simp only [SV.keysL, List.mem_append] at h
    simp only [SV.renL, SV.denL, SV.den_ren hj x (fun k hk => h k (.inl hk)), SV.denL_ren hj r (fun k hk => h k (.inr hk))]
end

mutual
theorem SV.ok_ren {ρ : Nat → Nat} {H : HV} : ∀ x : SV, x.Ok H → (x.ren ρ).Ok H
  | .dat _, h => by simpa only [SV.ren, SV.Ok] using h
  | .elt .., h => by simpa only [SV.ren, SV.Ok] using h
  | .agg l, h => by simp only [SV.ren, SV.Ok] at h ⊢; exact SV.okL_ren l h
  | .tup l, h => by simp only [SV.ren, SV.Ok] at h ⊢; exact SV.okL_ren l h
  | .fn _ a c, h => by simp only [SV.ren, SV.Ok] at h ⊢; exact ⟨SV.okL_ren a h.1, SV.okL_ren c h.2⟩
  | .int .., _ => by simp [SV.ren, SV.Ok]
  | .bool _, _ => by simp [SV.ren, SV.Ok]
  | .lb _, _ => by simp [SV.ren, SV.Ok]
  | .str _, _ => by simp [SV.ren, SV.Ok]
  | .nils, _ => by simp [SV.ren, SV.Ok]
  | .vec _, _ => by simp [SV.ren, SV.Ok]
  | .ptr .., _ => by simp [SV.ren, SV.Ok]
  | .velt .., _ => by simp [SV.ren, SV.Ok]
  | .view .., _ => by simp [SV.ren, SV.Ok]
  | .nilp, _ => by simp [SV.ren, SV.Ok]
  | .nilf, _ => by simp [SV.ren, SV.Ok]
  | .mapp _, _ => by simp [SV.ren, SV.Ok]
  | .undef, _ => by simp [SV.ren, SV.Ok]
  | .junk _, _ => by simp [SV.ren, SV.Ok]
  | .raw _, _ => by simp [SV.ren, SV.Ok]
theorem SV.okL_ren {ρ : Nat → Nat} {H : HV} : ∀ l : List SV, SV.OkL H l → SV.OkL H (SV.renL ρ l)
  | [], _ => by simp [SV.renL, SV.OkL]
  | x :: r, h => by simp only [SV.renL, SV.OkL] at h ⊢; exact ⟨SV.ok_ren x h.1, SV.okL_ren r h.2⟩
end

theorem OOk.ren {C : Ctx} {ρ : Nat → Nat} {E E' : Env} {H : HV} {w : World} {k : Nat} {o : OBlk} (hj : E'.j = E.j) (h : OOk C E H w k o) (hk : Ren ρ E E' k) (ho : ∀ j, j ∈ o.keys → Ren ρ E E' j)
    (hinj : ∀ es, o = .map es → KeysOk es → KeysOk (es.map fun e => (e.1.ren ρ, e.2.ren ρ))) : OOk C E' H w (ρ k) (o.ren ρ) := by
  obtain ⟨k1, k2⟩ := hk
  cases o with
  | cells t cs =>
    obtain ⟨a, b, c, d⟩ := h
    exact ⟨by rw [k1]; exact a, by rw [k1, SV.denL_ren hj cs ho]; exact b, by rw [k1]; exact c, SV.okL_ren cs d⟩
  | pub d => exact ⟨by rw [k2]; exact h.1, h.2⟩
  | map es =>
    obtain ⟨a, b, ⟨en, cl, hh, hm⟩, c, d⟩ := h
    refine ⟨by rw [k1]; exact a, by rw [k1]; exact b, ⟨en, cl, by rw [k1]; exact hh, hm.trans (List.Perm.of_eq ?_)⟩, ?_, hinj es rfl d⟩
    · rw [List.map_map]
      apply List.map_congr_left
      intro e he
      simp only [OBlk.keys, List.mem_flatMap, List.mem_append] at ho
      simp only [Function.comp, SV.den_ren hj e.1 (fun j hj => ho j ⟨e, he, .inl hj⟩), SV.den_ren hj e.2 (fun j hj => ho j ⟨e, he, .inr hj⟩)]
    · intro e he
      obtain ⟨x, hx, rfl⟩ := List.mem_map.1 he
      exact ⟨SV.ok_ren _ (c x hx).1, SV.ok_ren _ (c x hx).2⟩
  | arr e d =>
    obtain ⟨hd, sz, rows, rfl, hv, how, hl, hk2, hx⟩ := h
    exact ⟨hd, sz, rows, rfl, by rw [k2]; exact hv, how, hl, hk2, fun a c hc => by
      obtain ⟨p, q⟩ := hx a c hc
      exact ⟨by rw [k1]; exact p, by rw [k1]; exact q⟩⟩

theorem keysOk_ren {ρ : Nat → Nat} {es : List (SV × SV)} (h : KeysOk es) : KeysOk (es.map fun e => (e.1.ren ρ, e.2.ren ρ)) := by
  refine ⟨fun e he => ?_, ?_⟩
  · obtain ⟨x, hx, rfl⟩ := List.mem_map.1 he
    obtain ⟨k, n, hk⟩ := h.1 x hx
    exact ⟨k, n, by simp [hk, SV.ren]⟩
  · rw [List.pairwise_map]
    refine h.2.imp_of_mem ?_
    intro a b ha hb hne
    obtain ⟨k, n, hk⟩ := h.1 a ha
    obtain ⟨k', n', hk'⟩ := h.1 b hb
    rw [hk, hk'] at hne
    simpa [hk, hk', SV.ren] using hne
def meet : List Nat → List Nat → List Nat
  | acc, [] => acc
  | acc, k :: r => match acc.contains k with
    | true => meet acc r
    | false => meet (acc ++ [k]) r

def idxOf (k : Nat) : Nat → List Nat → Nat
  | n, [] => n
  | n, x :: r => match Nat.beq x k with
    | true => n
    | false => idxOf k (n + 1) r

theorem meet_mem {k : Nat} : ∀ {l acc : List Nat}, k ∈ acc ∨ k ∈ l → k ∈ meet acc l
  | [], acc, h => by simpa [meet] using h
  | x :: r, acc, h => by
    simp only [meet]
    split
    · rename_i hx
      refine meet_mem ?_
      rcases h with h | h
      · exact .inl h
      · rcases List.mem_cons.1 h with rfl | h
        · exact .inl (by simpa using hx)
        · exact .inr h
    · refine meet_mem ?_
      rcases h with h | h
      · exact .inl (List.mem_append_left _ h)
      · rcases List.mem_cons.1 h with rfl | h
        · exact .inl (by simp)
        · exact .inr h

theorem idxOf_spec {k : Nat} : ∀ {l : List Nat} {n : Nat}, k ∈ l → ∃ i, idxOf k n l = n + i ∧ l[i]? = some k
  | [], _, h => by cases h
  | x :: r, n, h => by
    simp only [idxOf]
    cases hx : Nat.beq x k with
    | true => exact ⟨0, by simp, by simp [Nat.eq_of_beq_eq_true hx]⟩
    | false =>
      have hne : x ≠ k := fun e => by subst e; rw [Nat.beq_refl] at hx; cases hx
      rcases List.mem_cons.1 h with h | h
      · exact absurd h.symm hne
      · obtain ⟨i, h1, h2⟩ := idxOf_spec (n := n + 1) h
        exact ⟨i + 1, by simp only; omega, by simpa using h2⟩
def walkK (m : Mem) : Nat → Nat → List Nat → List Nat
  | 0, _, acc => acc
  | n + 1, i, acc => match acc[i]? with
    | none => acc
    | some k => walkK m n (i + 1) (meet acc (match m.get k with | some o => o.keys | none => []))

theorem walkK_mem {m : Mem} {k : Nat} : ∀ {n i : Nat} {acc : List Nat}, k ∈ acc → k ∈ walkK m n i acc
  | 0, _, _, h => h
  | n + 1, i, acc, h => by
    simp only [walkK]
    split
    · exact h
    · exact walkK_mem (meet_mem (.inl h))

def Conf.allKeys (c : Conf) : List Nat :=
  meet (walkK c.mem (c.mem.length + 4) 0 (meet [] (SV.keysL c.top.tmps ++ (c.rest.flatMap fun f => SV.keysL f.tmps)))) (Mem.named c.mem)

def renWith (ρ : Nat → Nat) (c : Conf) : Conf :=
  ⟨{ c.top with tmps := SV.renL ρ c.top.tmps }, c.rest.map fun f => { f with tmps := SV.renL ρ f.tmps }, c.mem.map fun e => (ρ e.1, e.2.ren ρ)⟩
def insM (x : Nat × OBlk) : Mem → Mem
  | [] => [x]
  | y :: r => match Nat.ble x.1 y.1 with
    | true => x :: y :: r
    | false => y :: insM x r

def sortM : Mem → Mem
  | [] => []
  | x :: r => insM x (sortM r)

theorem insM_perm (x : Nat × OBlk) : ∀ m : Mem, (insM x m).Perm (x :: m)
  | [] => List.Perm.refl _
  | y :: r => by
    simp only [insM]
    split
    · exact List.Perm.refl _
    · exact ((insM_perm x r).cons y).trans (List.Perm.swap _ _ _)

theorem sortM_perm : ∀ m : Mem, (sortM m).Perm m
  | [] => List.Perm.refl _
  | x :: r => (insM_perm x _).trans ((sortM_perm r).cons x)

theorem Good.perm {C : Ctx} {m m' : Mem} {E : Env} {H : HV} {w : World} (g : Good C m E H w) (h : m'.Perm m) : Good C m' E H w :=
  ⟨g.below, g.ext, g.fresh, g.cell, fun k o hk => g.own k o (h.subset hk), (h.pairwise_iff (fun {a b} (h : a.1 ≠ b.1) => h.symm)).2 g.keys, fun x y hx hy => g.apart x y (h.subset hx) (h.subset hy), g.fix⟩

def sortC (c : Conf) : Conf := { c with mem := sortM c.mem }

theorem sortC_sound {P : Program} {C : Ctx} {R : Value → World → Prop} {c : Conf} (h : Runs P C (sortC c) R) : Runs P C c R :=
  fun E H w g ok => h E H w (g.perm (sortM_perm _)) ok
def newKy (ks : List Nat) (k : Nat) : Nat :=
  match Nat.ble PIN k with
  | true => k
  | false => idxOf k 0 ks
def renC (c : Conf) : Conf :=
  match Nat.blt c.allKeys.length PIN with
  | true => renWith (newKy c.allKeys) c
  | false => c
noncomputable def headC {β : Type _} (P : Program) (c : Conf) (k : Conf → β) : β := nz (renC (fgt P c)) fun c => nz (sortC c) k

theorem renC_sound {P : Program} {C : Ctx} {R : Value → World → Prop} {c : Conf} (h : Runs P C (renC c) R) : Runs P C c R := by
  unfold renC at h
  cases hsz : Nat.blt c.allKeys.length PIN with
  | false => rw [hsz] at h; exact h
  | true =>
  rw [hsz] at h
  have hsz : c.allKeys.length < PIN := by simpa [Nat.blt_eq] using hsz
  intro E H w g ok
  have spec : ∀ k, k ∈ c.allKeys → ∃ i, idxOf k 0 c.allKeys = i ∧ c.allKeys[i]? = some k := fun k hk => by
    obtain ⟨i, h1, h2⟩ := idxOf_spec (n := 0) hk
    exact ⟨i, by omega, h2⟩
  have all : ∀ k, k ∈ SV.keysL c.top.tmps ∨ (∃ f, f ∈ c.rest ∧ k ∈ SV.keysL f.tmps) ∨ k ∈ Mem.named c.mem → k ∈ c.allKeys := fun k hk => by
    rcases hk with hk | ⟨f, hf, hk⟩ | hk
    · exact meet_mem (.inl (walkK_mem (meet_mem (.inr (List.mem_append_left _ hk)))))
    · exact meet_mem (.inl (walkK_mem (meet_mem (.inr (List.mem_append_right _ (List.mem_flatMap.2 ⟨f, hf, hk⟩))))))
    · exact meet_mem (.inr hk)
  let E' : Env := ⟨fun i => if PIN ≤ i then E.b i else E.b (c.allKeys.getD i 0), fun i => if PIN ≤ i then E.v i else E.v (c.allKeys.getD i 0), E.j⟩
  let ρ : Nat → Nat := newKy c.allKeys
  have cas : ∀ k, k ∈ c.allKeys → (PIN ≤ k ∧ ρ k = k) ∨ (k < PIN ∧ ρ k < PIN ∧ ρ k = idxOf k 0 c.allKeys ∧ c.allKeys[ρ k]? = some k) := fun k hk => by
    rcases Nat.lt_or_ge k PIN with hl | hl
    · obtain ⟨i, h1, h2⟩ := spec k hk
      have e : ρ k = i := by
        have : Nat.ble PIN k = false := by
          cases hb : Nat.ble PIN k with
          | false => rfl
          | true => have := Nat.le_of_ble_eq_true hb; omega
        simp only [ρ, newKy, this, h1]
      have hi := (List.getElem?_eq_some_iff.1 h2).1
      exact .inr ⟨hl, by omega, by rw [e, h1], by rw [e]; exact h2⟩
    · exact .inl ⟨hl, by simp only [ρ, newKy, Nat.ble_eq_true_of_le hl]⟩
  have ren : ∀ k, k ∈ c.allKeys → Ren ρ E E' k := fun k hk => by
    rcases cas k hk with ⟨h1, h2⟩ | ⟨h1, h2, _, h3⟩
    · simp only [Ren, E', h2, if_pos h1, and_self]
    · simp only [Ren, E', if_neg (Nat.not_le.2 h2), List.getD_eq_getElem?_getD, h3, Option.getD_some, and_self]
  have inj : ∀ k j, k ∈ c.allKeys → j ∈ c.allKeys → ρ k = ρ j → k = j := fun k j hk hj e => by
    rcases cas k hk with ⟨h1, h2⟩ | ⟨h1, h2, _, h3⟩ <;> rcases cas j hj with ⟨g1, g2⟩ | ⟨g1, g2, _, g3⟩
    · rw [h2, g2] at e; exact e
    · omega
    · omega
    · rw [e, g3] at h3; exact (Option.some.inj h3).symm
  have named : ∀ k o, (k, o) ∈ c.mem → k ∈ c.allKeys ∧ ∀ j, j ∈ o.keys → j ∈ c.allKeys := fun k o hm => by
    refine ⟨all k (.inr (.inr ?_)), fun j hj => all j (.inr (.inr ?_))⟩
    · simp only [Mem.named, List.mem_flatMap]; exact ⟨_, hm, List.mem_cons_self⟩
    · simp only [Mem.named, List.mem_flatMap]; exact ⟨_, hm, List.mem_cons_of_mem _ hj⟩
  have gd : Good C (c.mem.map fun e => (ρ e.1, e.2.ren ρ)) E' H w := by
    refine ⟨g.below, g.ext, g.fresh, g.cell, fun k o hko => ?_, ?_, fun x y hx hy hne hlx hly => ?_, g.fix.keep (fun k hk => by simp only [E', if_pos hk]) fun _ _ h _ => h⟩
    · obtain ⟨e, he, h1⟩ := List.mem_map.1 hko
      simp only [Prod.mk.injEq] at h1
      obtain ⟨rfl, rfl⟩ := h1
      obtain ⟨n1, n2⟩ := named e.1 e.2 he
      exact (g.own e.1 e.2 he).ren (E' := E') (show E'.j = E.j from rfl) (ren _ n1) (fun j hj => ren j (n2 j hj)) (fun es _ hk => keysOk_ren hk)
    · rw [List.pairwise_map]
      refine g.keys.imp_of_mem ?_
      intro a b ha hb hne e
      exact hne (inj _ _ (named a.1 a.2 ha).1 (named b.1 b.2 hb).1 e)
    · obtain ⟨a, ha, h1⟩ := List.mem_map.1 hx
      obtain ⟨b, hb, h2⟩ := List.mem_map.1 hy
      subst h1; subst h2
      simp only at hne hlx hly ⊢
      rw [(ren a.1 (named a.1 a.2 ha).1).1, (ren b.1 (named b.1 b.2 hb).1).1]
      have lies : ∀ o : OBlk, (o.ren ρ).Lies → o.Lies := fun o h => by cases o <;> exact h
      exact g.apart a b ha hb (fun e => hne (by rw [e])) (lies _ hlx) (lies _ hly)
  have hr := h E' H w gd ⟨SV.okL_ren _ ok.1, fun f hf => by
    obtain ⟨f', hf', rfl⟩ := List.mem_map.1 hf
    exact SV.okL_ren _ (ok.2 f' hf')⟩
  have e1 : (renWith ρ c).top.den E' = c.top.den E := by
    simp only [renWith, SFrm.den]
    rw [SV.denL_ren (E := E) (E' := E') rfl _ fun k hk => ren k (all k (.inl hk))]
  have e2 : (renWith ρ c).rest.map (SFrm.den E') = c.rest.map (SFrm.den E) := by
    simp only [renWith, List.map_map]
    apply List.map_congr_left
    intro f hf
    simp only [Function.comp, SFrm.den]
    rw [SV.denL_ren (E := E) (E' := E') rfl _ fun k hk => ren k (all k (.inr (.inl ⟨f, hf, hk⟩)))]
  rw [e1, e2] at hr
  exact hr

theorem headC_sound {P : Program} {C : Ctx} {R : Value → World → Prop} {c : Conf} (h : (headC P c Tree.leaf).holds P C R) : Runs P C c R := by
  simp only [headC, nz_eq] at h
  exact fgt_sound (renC_sound (sortC_sound h))

/-! An empty slice is a row of one's own. -/
def vecIn (K : Nat) (e : TypeId) (sz : Nat) (blk : Option Nat) (off : Nat) (c : Conf) : Option Conf :=
  match c.fresh K with
  | false => none
  | true => match blk with
    | none => match c.top.tmps[off]? with
      | some .nils => some ⟨{ c.top with tmps := c.top.tmps.set off (.vec K) }, c.rest, (K, .arr e (.slc none sz [])) :: c.mem⟩
      | _ => none
    | some b => match c.mem.get b with
      | some (.cells t cs) => match cs[off]? with
        | some .nils => some ⟨c.top, c.rest, (K, .arr e (.slc none sz [])) :: c.mem.set b (.cells t (cs.set off (.vec K)))⟩
        | _ => none
      | _ => none

theorem denL_setVec {E : Env} {K : Nat} {l : List SV} {i : Nat} (h : l[i]? = some .nils) (hv : E.v K = (none, 0)) : SV.denL E (l.set i (.vec K)) = SV.denL E l := by
  rw [denL_set, SV.denL_eq]
  apply List.ext_getElem?
  intro j
  by_cases hj : j = i
  · subst hj
    rw [List.getElem?_set_self (by have := (List.getElem?_eq_some_iff.1 h).1; simpa using this)]
    simp [h, SV.den, hv, hval]
  · rw [List.getElem?_set_ne (Ne.symm hj)]

theorem vecIn_sound {P : Program} {C : Ctx} {R : Value → World → Prop} {K : Nat} {e : TypeId} {sz : Nat} {blk : Option Nat} {off : Nat} {c c' : Conf} (hc : vecIn K e sz blk off c = some c') (h : Runs P C c' R) : Runs P C c R := by
  intro E H w g ok
  unfold vecIn at hc
  split at hc
  · cases hc
  · rename_i hf
    obtain ⟨f1, f2, f3⟩ := fresh_spec hf
    have ha := E.agree_setV K 0 (none, 0)
    have hv : (E.setV K 0 (none, 0)).v K = (none, 0) := by simp [Env.setV]
    have cons : ∀ {m : Mem}, Good C m E H w → Mem.has K m = false → Good C ((K, .arr e (.slc none sz [])) :: m) (E.setV K 0 (none, 0)) H w := fun {m} gm hm =>
      Good.cons gm hm ha (Below.refl _ _) ⟨_, _, _, rfl, hv, ⟨by simp [flat], .inl ⟨rfl, rfl⟩⟩, by simp, by simp, by simp⟩ (fun hl => by simp [OBlk.Lies, D.hd] at hl)
    have hrest : c.rest.map (SFrm.den (E.setV K 0 (none, 0))) = c.rest.map (SFrm.den E) := rest_agree ha f3
    split at hc
    · split at hc
      · rename_i hn
        cases hc
        have hr := h (E.setV K 0 (none, 0)) H w (cons g f1) ⟨okL_putS (dst := some off) ok.1 (by simp [SV.Ok]), ok.2⟩
        simp only at hr
        rw [hrest] at hr
        have e1 : SFrm.den (E.setV K 0 (none, 0)) { c.top with tmps := c.top.tmps.set off (.vec K) } = c.top.den E := by
          simp only [SFrm.den]
          rw [denL_setVec hn hv, SV.denL_agree ha _ f2]
        rw [e1] at hr
        exact hr
      · cases hc
    · rename_i b
      split at hc
      · rename_i t cs hg
        split at hc
        · rename_i hn
          cases hc
          -- the block holds what it held
          have hmem := Mem.get_mem hg
          have g1 := cons g f1
          have hkb : b ≠ K := fun e => (Mem.has_key f1 _ hmem).1 (by rw [e])
          have hcs : SV.hasL K cs = false := (Mem.has_key f1 _ hmem).2
          have g2 : Good C ((K, .arr e (.slc none sz [])) :: c.mem.set b (.cells t (cs.set off (.vec K)))) (E.setV K 0 (none, 0)) H w := by
            have hspec := Mem.set_spec (o' := .cells t (cs.set off (.vec K))) g.keys hg
            refine ⟨g1.below, g1.ext, g1.fresh, g1.cell, fun k o hko => ?_, ?_, fun x y hx hy hne hlx hly => ?_, g1.fix⟩
            · rcases List.mem_cons.1 hko with hk | hk
              · exact g1.own k o (by rw [hk]; exact List.mem_cons_self)
              · rcases hspec k o hk with ⟨rfl, rfl⟩ | ⟨hne, hm⟩
                · obtain ⟨a1, a2, a3, a4⟩ := g1.own k _ (List.mem_cons_of_mem _ hmem)
                  exact ⟨a1, by rw [denL_setVec hn hv]; exact a2, a3, okL_putS (dst := some off) a4 (by simp [SV.Ok])⟩
                · exact g1.own k o (List.mem_cons_of_mem _ hm)
            · rw [pairwise_keys]
              have := g1.keys
              rw [pairwise_keys] at this
              simpa [Mem.set_keys] using this
            · have old : ∀ z : Nat × OBlk, z ∈ (K, OBlk.arr e (.slc none sz [])) :: c.mem.set b (.cells t (cs.set off (.vec K))) → z.2.Lies → ∃ o, (z.1, o) ∈ (K, OBlk.arr e (.slc none sz [])) :: c.mem ∧ o.Lies := by
                intro z hz hl
                rcases List.mem_cons.1 hz with rfl | hz
                · exact ⟨_, List.mem_cons_self, hl⟩
                · rcases hspec z.1 z.2 hz with ⟨h1, h2⟩ | ⟨_, hm⟩
                  · exact ⟨.cells t cs, List.mem_cons_of_mem _ (by rw [h1]; exact hmem), trivial⟩
                  · exact ⟨_, List.mem_cons_of_mem _ hm, hl⟩
              obtain ⟨ox, hx1, hx2⟩ := old x hx hlx
              obtain ⟨oy, hy1, hy2⟩ := old y hy hly
              exact g1.apart (x.1, ox) (y.1, oy) hx1 hy1 hne hx2 hy2
          have hr := h (E.setV K 0 (none, 0)) H w g2 ok
          simp only at hr
          rw [hrest] at hr
          have e1 : SFrm.den (E.setV K 0 (none, 0)) c.top = c.top.den E := by
            simp only [SFrm.den]
            rw [SV.denL_agree ha _ f2]
          rw [e1] at hr
          exact hr
        · cases hc
      · cases hc

end Sx
end
section
namespace Sx
open Go RowKit
def brA (f : SV → Tree) (d : SV) : List (Bool × SV) → Tree
  | [] => f d
  | (b, v) :: r => .br b (f v) (brA f d r)
def keyFor (c : Conf) (dst : Option Tmp) : Nat → Nat → Option Nat
  | 0, _ => none
  | n + 1, d => match c.fresh (dstKey d dst) with
    | true => some (dstKey d dst)
    | false => keyFor c dst n (d + 10)

theorem keyFor_spec {c : Conf} {dst : Option Tmp} : ∀ {n d key : Nat}, keyFor c dst n d = some key → c.fresh key = true
  | 0, _, _, h => by cases h
  | n + 1, d, key, h => by
    simp only [keyFor] at h
    split at h
    · rename_i hc; cases h; exact hc
    · exact keyFor_spec h

section
variable {β : Type _}
noncomputable def nzR (l : List SFrm) (k : List SFrm → β) : β :=
  List.rec (motive := fun _ => (List SFrm → β) → β) (fun k => k []) (fun x _ ih k => nzL SV.nz2 x.tmps fun t => ih fun r => k (⟨x.fn, x.ri, x.await, x.todo, t⟩ :: r)) l k
theorem nzR_eq : ∀ (l : List SFrm) (k : List SFrm → β), nzR l k = k l
  | [], _ => rfl
  | x :: r, k => by
    show nzL SV.nz2 x.tmps (fun t => nzR r fun r' => k (⟨x.fn, x.ri, x.await, x.todo, t⟩ :: r')) = _
    rw [nzL_eq SV.nz2_eq, nzR_eq r]
end
noncomputable def leafR (c : Conf) : Tree := nzR c.rest fun r => .leaf ⟨c.top, r, c.mem⟩
theorem leafR_eq : leafR = Tree.leaf := by funext c; simp only [leafR, nzR_eq]
theorem headR_sound {P : Program} {C : Ctx} {R : Value → World → Prop} {c : Conf} (h : (headC P c leafR).holds P C R) : Runs P C c R := headC_sound (by rwa [leafR_eq] at h)
def unroll (c : Conf) : Conf :=
  match c.top.todo with
  | .inLoop b :: k => { c with top := { c.top with todo := .code b :: .inLoop b :: k } }
  | _ => c
noncomputable def stepC (P : Program) (cs : Ctrs) (U : FuncId → Bool) (ih : Conf → Tree) (c : Conf) : Tree :=
  let s := c.top
  match s.ri with
  | some (_, []) => nz { c with top := { s with ri := none } } ih
  | some (ops, i :: l) =>
    match ops[i]? with
    | none => ih { c with top := { s with ri := some (ops, l) } }
    | some o =>
      match guardR ops o s.tmps with
      | .bad => .stuck
      | .no => ih { c with top := { s with ri := some (ops, l), tmps := putS s.tmps o.dst .undef } }
      | .fork t b => .br b (ih { c with top := { s with tmps := s.tmps.set t (.lb true) } }) (ih { c with top := { s with tmps := s.tmps.set t (.lb false) } })
      | .yes =>
        let quick := match opr P (evS s.tmps) c.mem 0 o.op with
          | .val ps v _ => needs ps (ih { c with top := { s with ri := some (ops, l), tmps := putS s.tmps o.dst v } })
          | _ => .stuck
        let plain := depthK c.rest 1 fun d => match keyFor c o.dst 40 d with
          | some key => match opr P (evS s.tmps) c.mem key o.op with
            | .val ps v m' => needs ps (ih { c with top := { s with ri := some (ops, l), tmps := putS s.tmps o.dst v }, mem := m' })
            | .all ps g => needs ps (.all fun hs => ih { c with top := { s with ri := some (ops, l), tmps := putS s.tmps o.dst (g (hs 0)).1 }, mem := (g (hs 0)).2 })
            | .bad => .stuck
          | none => .stuck
        match o.op with
        | .pick (.tmp t) _ _ =>
          match s.tmps[t]? with
          | some (.bool b) => .br b (ih { c with top := { s with tmps := s.tmps.set t (.lb true) } }) (ih { c with top := { s with tmps := s.tmps.set t (.lb false) } })
          | _ => quick
        | .store t a x =>
          match storeR P c.mem t (evS s.tmps a) (evS s.tmps x) with
          | some (ps, m') => needs ps (ih { c with top := { s with ri := some (ops, l), tmps := putS s.tmps o.dst .undef }, mem := m' })
          | none => .stuck
        | .call cl =>
          match calleeOf (evS s.tmps) cl.callee with
          | some (f, first, captured) =>
            let args := first ++ cl.args.toList.map (evS s.tmps) ++ captured
            match cs.find f with
            | some ctr =>
              depthK c.rest 1 fun d => match keyFor c o.dst 40 d with
              | some key =>
                match ctr args key c.mem with
                | .val ps v m' => needs ps (ih { c with top := { s with ri := some (ops, l), tmps := putS s.tmps o.dst v }, mem := m' })
                | .all ps g => needs ps (.all fun hs => ih { c with top := { s with ri := some (ops, l), tmps := putS s.tmps o.dst (g (hs 0)).1 }, mem := (g (hs 0)).2 })
                | .bad => .stuck
              | none => .stuck
            | none =>
              match P.funcs[f]? with
              | some fn => match fn.body with
                | some body => match fn.name == "runtime.NumGoroutine" with
                  | true => .stuck
                  | false => nz { top := ⟨f, none, none, [.code body], args ++ List.replicate (fn.ntmps - args.length) .undef⟩, rest := { s with ri := some (ops, l), await := o.dst } :: c.rest, mem := c.mem } ih
                | none => .stuck
              | none => .stuck
          | none => match quickOp o.op with
            | true => quick
            | false => plain
        | .lookup t x i ok =>
          match lookR P c.mem t (evS s.tmps x) (evS s.tmps i) ok with
          | some (al, d) => brA (fun v => ih { c with top := { s with ri := some (ops, l), tmps := putS s.tmps o.dst v } }) d al
          | none => .stuck
        | _ => match quickOp o.op with
          | true => quick
          | false => plain
  | none =>
    match s.todo with
    | [] => retC P (fun c => nz c ih) c
    | .code .ret :: _ => retC P (fun c => nz c ih) c
    | .code .skip :: k => ih { c with top := { s with todo := k } }
    | .code (.label _) :: k => ih { c with top := { s with todo := k } }
    | .inBlock _ :: k => ih { c with top := { s with todo := k } }
    | .inScope _ :: k => ih { c with top := { s with todo := k } }
    | .code (.scope b) :: k => ih { c with top := { s with todo := .code b :: .inScope b :: k } }
    | .code (.seq a b) :: k => ih { c with top := { s with todo := .code a :: .code b :: k } }
    | .code (.cond x a b) :: k =>
      match evS s.tmps x with
      | .lb true => ih { c with top := { s with todo := .code a :: k } }
      | .lb false => ih { c with top := { s with todo := .code b :: k } }
      | .bool t => .br t (ih { c with top := { s with todo := .code a :: k } }) (ih { c with top := { s with todo := .code b :: k } })
      | _ => .stuck
    | .code (.block id b) :: k => ih { c with top := { s with todo := .code b :: .inBlock id :: k } }
    | .code (.loop b) :: k => match U s.fn with
      | true => ih { c with top := { s with todo := .code b :: .inLoop b :: k } }
      | false => headC P { c with top := { s with todo := .inLoop b :: k } } leafR
    | .inLoop b :: k => match U s.fn with
      | true => ih { c with top := { s with todo := .code b :: .inLoop b :: k } }
      | false => headC P { c with top := { s with todo := .inLoop b :: k } } leafR
    | .code (.exit id) :: k => match exitTo id k with
      | some k' => ih { c with top := { s with todo := k' } }
      | none => .stuck
    | .code (.goto n) :: k => match gotoIn n k with
      | some k' => ih { c with top := { s with todo := k' } }
      | none => .stuck
    | .code (.region _ ops false) :: k => match calmOps ops with
      | true => ih { c with top := { s with ri := some (ops, List.range ops.size), todo := k } }
      | false => .stuck
    | .code (.region _ ops true) :: k => drawC P cs ih c ops k
    | _ => .stuck
noncomputable def execU (P : Program) (cs : Ctrs) (U : FuncId → Bool) (n : Nat) : Conf → Tree :=
  Nat.rec (motive := fun _ => Conf → Tree) (fun _ => .stuck) (fun _ ih c => stepC P cs U ih c) n

noncomputable def exec (P : Program) (cs : Ctrs) (n : Nat) : Conf → Tree := execU P cs (fun _ => false) n

end Sx
end
section
namespace Sx
open Go RowKit

section
variable {P : Program} {C : Ctx} {R : Value → World → Prop} {cs : Ctrs}

theorem after_of_holds {ih : Conf → Tree} (hih : ∀ c, (ih c).holds P C R → Runs P C c R) {r : OpR} {c : Conf} {ops : Array Oper} {l : List Nat} {dst : Option Tmp}
    (h : (match r with
      | .val ps v m' => needs ps (ih { c with top := { c.top with ri := some (ops, l), tmps := putS c.top.tmps dst v }, mem := m' })
      | .all ps g => needs ps (.all fun hs => ih { c with top := { c.top with ri := some (ops, l), tmps := putS c.top.tmps dst (g (hs 0)).1 }, mem := (g (hs 0)).2 })
      | .bad => .stuck : Tree).holds P C R) : r.After P C R c ops l dst := by
  cases r with
  | val ps v m' =>
    obtain ⟨h1, h2⟩ := needs_holds h
    exact ⟨h1, hih _ h2⟩
  | all ps g =>
    obtain ⟨h1, h2⟩ := needs_holds h
    exact ⟨h1, fun hs => hih _ (h2 fun _ => hs)⟩
  | bad => exact h.elim

theorem set_same_den (E : Env) {tmps : List SV} {t : Nat} {b : Bool} (ht : tmps[t]? = some (.bool b)) : SV.denL E (tmps.set t (.lb b)) = SV.denL E tmps := by
  rw [denL_set]
  simp only [SV.den]
  rw [SV.denL_eq]
  apply List.ext_getElem?
  intro i
  by_cases hi : i = t
  · subst hi
    have hlt : i < tmps.length := (List.getElem?_eq_some_iff.1 ht).1
    rw [List.getElem?_set_self (by simpa using hlt)]
    simp [ht, SV.den]
  · rw [List.getElem?_set_ne (Ne.symm hi)]

theorem ok_set_lb {H : HV} {tmps : List SV} (h : SV.OkL H tmps) (t : Nat) (b : Bool) : SV.OkL H (tmps.set t (.lb b)) :=
  okL_putS (dst := some t) h (by simp [SV.Ok])
theorem runs_fork {c : Conf} {t : Nat} {b : Bool} (ht : c.top.tmps[t]? = some (.bool b))
    (h1 : b = true → Runs P C { c with top := { c.top with tmps := c.top.tmps.set t (.lb true) } } R)
    (h2 : b = false → Runs P C { c with top := { c.top with tmps := c.top.tmps.set t (.lb false) } } R) : Runs P C c R := by
  cases b with
  | true => exact runs_top (h1 rfl) rfl rfl (fun H ok => ok_set_lb ok.1 t true) (fun ds ro E w T h => by simp only [SFrm.dn, set_same_den E ht] at h ⊢; exact h)
  | false => exact runs_top (h2 rfl) rfl rfl (fun H ok => ok_set_lb ok.1 t false) (fun ds ro E w T h => by simp only [SFrm.dn, set_same_den E ht] at h ⊢; exact h)

theorem brA_holds {f : SV → Tree} {d : SV} : ∀ {l : List (Bool × SV)}, (brA f d l).holds P C R → (f (pickA d l)).holds P C R
  | [], h => h
  | (true, v) :: r, h => h.1 rfl
  | (false, v) :: r, h => brA_holds (l := r) (h.2 rfl)

theorem step_sound (hcs : cs.Ok P) {U : FuncId → Bool} {ih : Conf → Tree} (hih : ∀ c, (ih c).holds P C R → Runs P C c R) (c : Conf) (h : (stepC P cs U ih c).holds P C R) : Runs P C c R := by
  obtain ⟨⟨fn, ri, aw, todo, tmps⟩, rest, mem⟩ := c
  cases ri with
  | some x =>
    obtain ⟨ops, l⟩ := x
    cases l with
    | nil =>
      simp only [stepC, nz_eq] at h
      exact runs_top (hih _ h) rfl rfl (fun H ok => ok.1) (fun ds ro E w T h => ⟨rfl, h⟩)
    | cons i l =>
      simp only [stepC] at h
      cases ho : ops[i]? with
      | none =>
        simp only [ho] at h
        refine runs_top (hih _ h) rfl rfl (fun H ok => ok.1) (fun ds ro E w T h => ?_)
        simp only [SFrm.dn, CFrm.run, wpOps_cons] at h ⊢
        unfold wpOp
        simp only [ho]
        exact h
      | some o =>
        simp only [ho] at h
        cases hg : guardR ops o tmps with
        | bad => simp only [hg] at h; exact h.elim
        | no =>
          simp only [hg] at h
          refine runs_top (hih _ h) rfl rfl (fun H ok => okL_putS ok.1 (by simp [SV.Ok])) (fun ds ro E w T h => ?_)
          refine frm_no ho ((guardR_spec (E := E)).2.1 hg) ?_
          simp only [SFrm.dn] at h ⊢
          rw [← put_den] at h
          exact h
        | fork t b =>
          simp only [hg] at h
          exact runs_fork (t := t) (b := b) ((guardR_spec (E := ⟨fun _ => 0, fun _ => (none, 0), fun _ => .bool false⟩)).2.2 t b hg) (fun hb => hih _ (h.1 hb)) (fun hb => hih _ (h.2 hb))
        | yes =>
          simp only [hg] at h
          have plain : ∀ (key : Nat), Conf.fresh key ⟨⟨fn, some (ops, i :: l), aw, todo, tmps⟩, rest, mem⟩ = true →
              (opr P (evS tmps) mem key o.op).After P C R ⟨⟨fn, some (ops, i :: l), aw, todo, tmps⟩, rest, mem⟩ ops l o.dst → Runs P C ⟨⟨fn, some (ops, i :: l), aw, todo, tmps⟩, rest, mem⟩ R :=
            fun key hf ha => runs_opr rfl ho hg hf ha
          -- an operation that reads alone
          have quick : quickOp o.op = true → (match opr P (evS tmps) mem 0 o.op with
              | .val ps v _ => needs ps (ih ⟨⟨fn, some (ops, l), aw, todo, putS tmps o.dst v⟩, rest, mem⟩)
              | _ => .stuck : Tree).holds P C R → Runs P C ⟨⟨fn, some (ops, i :: l), aw, todo, tmps⟩, rest, mem⟩ R := by
            intro hq h
            split at h
            · rename_i ps v m' hr
              obtain ⟨h1, h2⟩ := needs_holds h
              have hr2 := hih _ h2
              intro E H w g ok
              obtain ⟨e1, e2⟩ := oprQ_spec (P := P) (o := o) (v := v) (ps := ps) g ok.1 (by simp only [oprQ, hq, if_true, hr]) h1
              have h3 := hr2 E H w g ⟨okL_putS ok.1 e2, ok.2⟩
              rw [stkRun_eq] at h3 ⊢
              simp only [SFrm.dn] at h3 ⊢
              rw [← put_den] at h3
              exact frm_op ho ((guardR_spec (E := E)).1 hg) (.inl e1) h3
            · exact h.elim
          have other : (depthK rest 1 fun d => match keyFor ⟨⟨fn, some (ops, i :: l), aw, todo, tmps⟩, rest, mem⟩ o.dst 40 d with
              | some key => match opr P (evS tmps) mem key o.op with
                | .val ps v m' => needs ps (ih ⟨⟨fn, some (ops, l), aw, todo, putS tmps o.dst v⟩, rest, m'⟩)
                | .all ps g => needs ps (.all fun hs => ih ⟨⟨fn, some (ops, l), aw, todo, putS tmps o.dst (g (hs 0)).1⟩, rest, (g (hs 0)).2⟩)
                | .bad => .stuck
              | none => .stuck : Tree).holds P C R → Runs P C ⟨⟨fn, some (ops, i :: l), aw, todo, tmps⟩, rest, mem⟩ R := by
            intro h
            rw [depthK_eq] at h
            split at h
            · rename_i key hkey
              exact plain _ (keyFor_spec hkey) (after_of_holds hih h)
            · exact h.elim
          have both : (match quickOp o.op with
              | true => (match opr P (evS tmps) mem 0 o.op with
                | .val ps v _ => needs ps (ih ⟨⟨fn, some (ops, l), aw, todo, putS tmps o.dst v⟩, rest, mem⟩)
                | _ => .stuck : Tree)
              | false => (depthK rest 1 fun d => match keyFor ⟨⟨fn, some (ops, i :: l), aw, todo, tmps⟩, rest, mem⟩ o.dst 40 d with
                | some key => match opr P (evS tmps) mem key o.op with
                  | .val ps v m' => needs ps (ih ⟨⟨fn, some (ops, l), aw, todo, putS tmps o.dst v⟩, rest, m'⟩)
                  | .all ps g => needs ps (.all fun hs => ih ⟨⟨fn, some (ops, l), aw, todo, putS tmps o.dst (g (hs 0)).1⟩, rest, (g (hs 0)).2⟩)
                  | .bad => .stuck
                | none => .stuck) : Tree).holds P C R → Runs P C ⟨⟨fn, some (ops, i :: l), aw, todo, tmps⟩, rest, mem⟩ R := by
            intro h
            cases hq : quickOp o.op with
            | true => rw [hq] at h; exact quick hq h
            | false => rw [hq] at h; exact other h
          split at h
          · rename_i t x y hop
            split at h
            · rename_i b ht
              exact runs_fork (t := t) (b := b) ht (fun hb => hih _ (h.1 hb)) (fun hb => hih _ (h.2 hb))
            · exact quick (by rw [hop]; rfl) h
          · rename_i t a x hop
            split at h
            · rename_i ps m' hst
              obtain ⟨h1, h2⟩ := needs_holds h
              have hr2 := hih _ h2
              intro E H w g ok
              obtain ⟨w', e1, e2, _⟩ := storeR_spec (P := P) g (ok_evS ok.1 x) hst h1
              have h3 := hr2 E H w' e2 ⟨okL_putS ok.1 (by simp [SV.Ok]), ok.2⟩
              rw [stkRun_eq] at h3 ⊢
              simp only [SFrm.dn] at h3 ⊢
              rw [← put_den] at h3
              refine frm_op ho ((guardR_spec (E := E)).1 hg) (.inr ⟨?_, rfl⟩) h3
              unfold execOp
              simp only [hop, Sem.run_bind]
              rw [den_evS, den_evS, e1]
              rfl
            · exact h.elim
          · rename_i cl hop
            split at h
            · rename_i f first captured hcal
              split at h
              · rename_i ctr hfind
                rw [depthK_eq] at h
                split at h
                · rename_i key hkey
                  exact runs_ctr rfl ho hg (keyFor_spec hkey) hop hcal (hcs _ (Ctrs.find_mem hfind)) (after_of_holds hih h)
                · exact h.elim
              · split at h
                · rename_i fn' hfn
                  split at h
                  · rename_i body hb
                    split at h
                    · exact h.elim
                    · rename_i hn
                      rw [nz_eq] at h
                      exact runs_in rfl ho hg hop hcal hfn hb (by simpa using hn) (hih _ h)
                  · exact h.elim
                · exact h.elim
            · exact both h
          · rename_i t x i' ok hop
            split at h
            · rename_i al d hlk
              have hr2 := hih _ (brA_holds h)
              intro E H w g ok2
              obtain ⟨e1, e2⟩ := lookR_spec (P := P) g hlk
              have h3 := hr2 E H w g ⟨okL_putS ok2.1 e2, ok2.2⟩
              rw [stkRun_eq] at h3 ⊢
              simp only [SFrm.dn] at h3 ⊢
              rw [← put_den] at h3
              refine frm_op ho ((guardR_spec (E := E)).1 hg) (.inl ?_) h3
              unfold execOp
              simp only [hop, Sem.run_bind]
              rw [den_evS, den_evS, e1]
              rfl
            · exact h.elim
          · exact both h
  | none =>
    have hret : ∀ (todo' : List Item), (todo' = [] ∨ ∃ k, todo' = .code .ret :: k) →
        (retC P (fun c => nz c ih) ⟨⟨fn, none, aw, todo', tmps⟩, rest, mem⟩).holds P C R →
        Runs P C ⟨⟨fn, none, aw, todo', tmps⟩, rest, mem⟩ R := by
      intro todo' htodo h
      simp only [retC] at h
      cases hfn : P.funcs[fn]? with
      | none => simp only [hfn] at h; exact h.elim
      | some f =>
        simp only [hfn] at h
        cases hres : resS P mem tmps f.results.toList with
        | none => simp only [hres] at h; exact h.elim
        | some l =>
          simp only [hres] at h
          cases rest with
          | nil =>
            obtain ⟨hrd, h⟩ := h
            intro E H w g ok
            have g' := g.take
            have hl : ∀ D, D ∈ C.x.df → w.heap[D]? = some (.deferred (some [])) := fun D hD => (g.fix.fx D _ (g.fix.mark D hD).2).1
            obtain ⟨h1, h2⟩ := run_results (P := P) g' ok.1 hres
            have hT : R ((one? l).den E) (takeW C.x.df w) := by
              obtain ⟨H', hle, g2, _⟩ := pubsR_spec (leaves (one? l)) g'
              obtain ⟨e1, e2⟩ := closeV_spec g2 _ (h2.mono hle)
              rw [← e1]
              exact h E H' _ (g2.sub (List.nil_sublist _)) e2
            show Go1 P (kindOf C.x) fn todo' ⟨(SV.denL E tmps).toArray, marksOf C.x.df⟩ w R
            rw [show kindOf C.x = none by simp [kindOf, hrd]]
            rcases htodo with rfl | ⟨k, rfl⟩
            · exact Go1.fin hfn rfl g.fix.nodup hl h1 hT
            · exact Go1.ret hfn rfl g.fix.nodup hl h1 hT
          | cons s r =>
            intro E H w g ok
            obtain ⟨h1, h2⟩ := run_results (P := P) g ok.1 hres
            have h : (nz _ ih).holds P C R := h
            rw [nz_eq] at h
            have hr := hih _ h E H w g ⟨okL_putS (ok.2 s List.mem_cons_self) h2, fun f hf => ok.2 f (List.mem_cons_of_mem _ hf)⟩
            have hT : restOf P C.x ((s :: r).map (SFrm.den E)) R ((one? l).den E) w := by
              simp only [List.map_cons, restOf]
              simp only [SFrm.den] at hr ⊢
              rw [← put_den] at hr
              cases r <;> exact hr
            rw [stkRun_eq]
            show Go1 P none fn todo' ⟨(SV.denL E tmps).toArray, []⟩ w _
            rcases htodo with rfl | ⟨k, rfl⟩
            · exact Go1.fin (l := []) hfn rfl List.nodup_nil (fun _ h => by cases h) h1 hT
            · exact Go1.ret (l := []) hfn rfl List.nodup_nil (fun _ h => by cases h) h1 hT
    have one : ∀ (todo' : List Item), (∀ (b : Frame) cs w a K, step P (lone (b.atR a (todo ++ K)) cs w) = .next (lone (b.atR a (todo' ++ K)) cs w)) →
        Runs P C ⟨⟨fn, none, aw, todo', tmps⟩, rest, mem⟩ R → Runs P C ⟨⟨fn, none, aw, todo, tmps⟩, rest, mem⟩ R :=
      fun todo' hs hr => runs_top hr rfl rfl (fun H ok => ok.1) (fun ds ro E w T hh => Go1.step (fun b cs K => hs b cs w _ K) hh)
    cases todo with
    | nil => exact hret [] (.inl rfl) h
    | cons it k =>
      cases it
      case inBlock id => exact one _ (fun b cs w a K => stepR_inBlock) (hih _ h)
      case inScope bd => exact one _ (fun b cs w a K => stepR_inScope) (hih _ h)
      case inLoop bd =>
        simp only [stepC] at h
        split at h
        · exact one _ (fun b cs w a K => stepR_inLoop) (hih _ h)
        · exact headR_sound h
      case inRegion a b => exact h.elim
      case inRangeFunc a => exact h.elim
      case endRangeFunc a => exact h.elim
      case beginRound => exact h.elim
      case call => exact h.elim
      case code cd =>
        cases cd
        case refuse => exact h.elim
        case rangeFunc => exact h.elim
        case skip => exact one _ (fun b cs w a K => stepR_skip) (hih _ h)
        case label n => exact one _ (fun b cs w a K => stepR_label) (hih _ h)
        case seq a b => exact one _ (fun b cs w a K => stepR_seq) (hih _ h)
        case scope b => exact one _ (fun b cs w a K => stepR_scope) (hih _ h)
        case block id b => exact one _ (fun b cs w a K => stepR_block) (hih _ h)
        case loop b =>
          -- at the head of a loop
          have headed : Runs P C ⟨⟨fn, none, aw, .inLoop b :: k, tmps⟩, rest, mem⟩ R → Runs P C ⟨⟨fn, none, aw, .code (.loop b) :: k, tmps⟩, rest, mem⟩ R := by
            exact fun hrun => runs_top hrun rfl rfl (fun H ok => ok.1) (fun ds ro E w T hh => Go1.headed hh)
          simp only [stepC] at h
          split at h
          · refine headed (runs_top (hih _ h) rfl rfl (fun H ok => ok.1) (fun ds ro E w T hh => Go1.step (fun fr cs K => stepR_inLoop) hh))
          · exact headed (headR_sound h)
        case ret => exact hret _ (.inr ⟨k, rfl⟩) h
        case exit id =>
          simp only [stepC] at h
          split at h
          · rename_i k' hk; exact one _ (fun b cs w a K => stepR_exit (exitTo_append K hk)) (hih _ h)
          · exact h.elim
        case goto n =>
          simp only [stepC] at h
          split at h
          · rename_i k' hk; exact one _ (fun b cs w a K => stepR_goto (gotoIn_append K hk)) (hih _ h)
          · exact h.elim
        case cond x a b =>
          have go : ∀ (t : Bool), (∀ E, (evS tmps x).den E = .bool t) → Runs P C ⟨⟨fn, none, aw, .code (if t then a else b) :: k, tmps⟩, rest, mem⟩ R → Runs P C ⟨⟨fn, none, aw, .code (.cond x a b) :: k, tmps⟩, rest, mem⟩ R := by
            intro t ht hr
            refine runs_top hr rfl rfl (fun H ok => ok.1) (fun ds ro E w T hh => ?_)
            exact Go1.step (fun fr cs K => stepR_cond (by rw [SFrm.dn, den_evS]; exact ht E)) hh
          simp only [stepC] at h
          split at h
          · rename_i hx; exact go true (fun E => by rw [hx]; rfl) (hih _ h)
          · rename_i hx; exact go false (fun E => by rw [hx]; rfl) (hih _ h)
          · rename_i t hx
            cases t with
            | true => exact go true (fun E => by rw [hx]; rfl) (hih _ (h.1 rfl))
            | false => exact go false (fun E => by rw [hx]; rfl) (hih _ (h.2 rfl))
          · exact h.elim
        case region id ops draw =>
          cases draw with
          | true => exact drawC_sound hcs hih h
          | false =>
            simp only [stepC] at h
            split at h
            · rename_i hcalm
              exact runs_top (hih _ h) rfl rfl (fun H ok => ok.1) (fun ds ro E w T hh => Go1.region hcalm hh)
            · exact h.elim
      exact h.elim

theorem execU_sound (hcs : cs.Ok P) (U : FuncId → Bool) : ∀ (n : Nat) (c : Conf), (execU P cs U n c).holds P C R → Runs P C c R
  | 0, _, h => h.elim
  | n + 1, c, h => step_sound (U := U) (ih := execU P cs U n) hcs (fun c h => execU_sound hcs U n c h) c h

theorem exec_sound (hcs : cs.Ok P) (n : Nat) (c : Conf) (h : (exec P cs n c).holds P C R) : Runs P C c R := execU_sound hcs _ n c h
end
end Sx
end
section
namespace Sx
open Go RowKit
structure After (w : World) (H : HV) (w' : World) (H' : HV) : Prop where
  below : Below w.heap.size w w'
  le : HLe H H'
  fresh : ∀ b o v, H' b o = some v → H b o = some v ∨ w.heap.size ≤ b
  cell : ∀ b o v, H' b o = some v → w'.cell? ⟨b, o, none⟩ = some v

def InMem (H : HV) (w : World) : Prop := ∀ b o v, H b o = some v → w.cell? ⟨b, o, none⟩ = some v
def PCall (P : Program) (f : FuncId) (H : HV) (args : List Value) (T : HV → Value → Prop) : Prop :=
  ∀ w, InMem H w → Calls P f args.toArray w fun e w' => ∃ v H', e = .returned v ∧ After w H w' H' ∧ T H' v

def entry (P : Program) (f : FuncId) (args : List SV) : Conf :=
  match P.funcs[f]? with
  | some fn => match fn.body with
    | some b => ⟨⟨f, none, none, [.code b], args ++ List.replicate (fn.ntmps - args.length) .undef⟩, [], []⟩
    | none => ⟨⟨f, none, none, [], []⟩, [], []⟩
  | none => ⟨⟨f, none, none, [], []⟩, [], []⟩
def Bodied (P : Program) (f : FuncId) : Bool :=
  match P.funcs[f]? with
  | some fn => fn.body.isSome && !(fn.name == "runtime.NumGoroutine")
  | none => false

theorem bodied_spec {P : Program} {f : FuncId} (h : Bodied P f = true) : ∃ fn, P.funcs[f]? = some fn ∧ fn.body.isSome = true ∧ (fn.name == "runtime.NumGoroutine") = false := by
  unfold Bodied at h
  split at h
  · rename_i fn hfn
    simp only [Bool.and_eq_true, Bool.not_eq_true'] at h
    exact ⟨fn, hfn, h.1, h.2⟩
  · cases h

section
variable {P : Program} {f : FuncId} {H : HV}

theorem good_start {w : World} (hc : InMem H w) (E : Env) : Good ⟨w, H⟩ [] E H w :=
  ⟨Below.refl _ _, HLe.refl _, fun _ _ _ h => .inl h, hc, by simp, List.Pairwise.nil, by simp, fixOk_plain _ _ _⟩
theorem pcall {args : List SV} {T : HV → Value → Prop} (hb : Bodied P f = true) (hok : SV.OkL H args) (E : Env)
    (h : ∀ w, Runs P ⟨w, H⟩ (entry P f args) fun v w' => ∃ H', After w H w' H' ∧ T H' v) : PCall P f H (SV.denL E args) T := by
  intro w hc
  obtain ⟨fn, hfn, hbs, _⟩ := bodied_spec hb
  cases hbody : fn.body with
  | none => rw [hbody] at hbs; cases hbs
  | some b =>
    have he := h w
    simp only [entry, hfn, hbody] at he
    have hr := he E H w (good_start hc E) ⟨okL_append hok (by rw [SV.OkL_iff]; intro x hx; rw [List.eq_of_mem_replicate hx]; simp [SV.Ok]), by simp⟩
    rw [stkRun_eq] at hr
    simp only [List.map_nil, restOf, SFrm.dn, dsOf, roOf, CFrm.run] at hr
    have e3 : (SV.denL E args).toArray ++ Array.replicate (fn.ntmps - (SV.denL E args).toArray.size) undef = (SV.denL E (args ++ List.replicate (fn.ntmps - args.length) .undef)).toArray := by
      simp [SV.denL_eq, SV.den, ← List.toArray_replicate]
    have hcall := calls_of_go1 (P := P) (f := f) (args := (SV.denL E args).toArray) (w := w) hfn hbody (by rw [e3]; exact hr)
    exact Calls.mono hcall fun e w' ⟨v, hv, H', h1, h2⟩ => ⟨v, H', hv, h1, h2⟩
theorem after_good {w w' : World} {m : Mem} {E : Env} {H' : HV} (g : Good ⟨w, H⟩ m E H' w') : After w H w' H' := ⟨g.below, g.ext, g.fresh, g.cell⟩

theorem unroll_sound {C : Ctx} {R : Value → World → Prop} {c : Conf} (hri : c.top.ri = none) (h : Runs P C (unroll c) R) : Runs P C c R := by
  obtain ⟨⟨fn, ri, aw, todo, tmps⟩, rest, mem⟩ := c
  simp only at hri
  subst hri
  unfold unroll at h
  split at h
  · rename_i b k he
    simp only at he
    subst he
    exact runs_top h rfl rfl (fun H ok => ok.1) (fun ds ro E w T hh => Go1.step (fun fr cs K => stepR_inLoop) hh)
  · exact h
inductive SpecR where
  | scalar (ps : List Prop) (v : SV)
  | data (ps : List Prop) (g : (Nat → D) → SV)
  | no
def SV.flat : SV → Bool
  | .int .. => true
  | .bool _ => true
  | .lb _ => true
  | _ => false

mutual
def SV.shutV : SV → Bool
  | .int .. => true
  | .bool _ => true
  | .lb _ => true
  | .str _ => true
  | .nils => true
  | .dat _ => true
  | .nilp => true
  | .agg l => SV.shutL l
  | .tup l => SV.shutL l
  | _ => false
def SV.shutL : List SV → Bool
  | [] => true
  | x :: r => SV.shutV x && SV.shutL r
end
def Law (P : Program) (f : FuncId) (spec : List SV → SpecR) : Prop :=
  Bodied P f = true ∧ ∀ (H : HV) (E : Env) (args : List SV), SV.OkL H args →
    match spec args with
    | .scalar ps v => (∀ p, p ∈ ps → p) → PCall P f H (SV.denL E args) fun _ u => u = v.den E
    | .data ps g => (∀ p, p ∈ ps → p) → PCall P f H (SV.denL E args) fun H' u => ∃ hs, u = (g hs).den E ∧ (g hs).Ok H'
    | .no => True
def ctrOf (spec : List SV → SpecR) : Ctr := fun args _ m =>
  match spec (closeL (pubsR (leavesL args) m) args) with
  | .scalar ps v => if v.flat then .val ps v m else .bad
  | .data ps g => .all ps fun hs => (g hs, pubsR (leavesL args) m)
  | .no => .bad

theorem closeL_spec {C : Ctx} {E : Env} {H : HV} {w : World} {m : Mem} (g : Good C m E H w) : ∀ l : List SV, SV.OkL H l → SV.denL E (closeL m l) = SV.denL E l ∧ SV.OkL H (closeL m l)
  | [], _ => by simp [closeL, SV.denL, SV.OkL]
  | x :: r, h => by
    obtain ⟨a, b⟩ := closeV_spec g x h.1
    obtain ⟨c, d⟩ := closeL_spec g r h.2
    exact ⟨by simp only [closeL, SV.denL, a, c], b, d⟩

theorem pubsR_ro {m : Mem} (h : roM m = true) : ∀ l : List SV, pubsR l m = m
  | [] => rfl
  | x :: r => by
    have hget : ∀ (m : Mem), roM m = true → ∀ k e d, m.get k ≠ some (.arr e d) := by
      intro m
      induction m with
      | nil => intro _ k e d h; cases h
      | cons y s ih =>
        intro hm k e d hk
        obtain ⟨j, o⟩ := y
        simp only [Mem.get] at hk
        cases o with
        | cells t cs =>
          simp only [roM] at hm
          split at hk
          · cases hk
          · exact ih hm k e d hk
        | map es =>
          simp only [roM] at hm
          split at hk
          · cases hk
          · exact ih hm k e d hk
        | arr e d => simp [roM] at hm
        | pub d => simp [roM] at hm
    have h1 : pubR m x = m := by
      unfold pubR
      split
      · split
        · rename_i hk; exact absurd hk (hget m h _ _ _)
        · rfl
      · rfl
    rw [pubsR, h1]
    exact pubsR_ro h r

theorem ctrOf_ro {spec : List SV → SpecR} : CtrRO (ctrOf spec) := by
  intro args key m h
  unfold ctrOf
  cases spec (closeL (pubsR (leavesL args) m) args) with
  | no => trivial
  | scalar ps v => by_cases hf : v.flat = true <;> simp [hf]
  | data ps g => simp only [pubsR_ro h]; intros; trivial

theorem ctrOf_ok {spec : List SV → SpecR} (h : Law P f spec) : CtrOk P f (ctrOf spec) := by
  refine ⟨bodied_spec h.1, fun C E H w args key m g hargs hk hk2 => ?_, ctrOf_ro⟩
  obtain ⟨H1, hle, g1, nw⟩ := pubsR_spec (leavesL args) g
  have hpm := pubsR_mem (leavesL args) (m := m)
  obtain ⟨e1, e2⟩ := closeL_spec g1 args (SV.OkL.mono hle _ hargs)
  have hl := h.2 H1 E _ e2
  unfold CallRight ctrOf
  cases hs : spec (closeL (pubsR (leavesL args) m) args) with
  | no => simp
  | scalar ps v =>
    simp only [hs] at hl ⊢
    split
    · rename_i r ps' v' m' he
      split at he
      · rename_i hfl
        simp only [OpR.val.injEq] at he
        obtain ⟨rfl, rfl, rfl⟩ := he
        intro hp
        have hc := hl hp w g1.cell
        rw [e1] at hc
        refine Calls.mono hc fun e w' ⟨u, H', he, ha, hu⟩ => ?_
        refine ⟨E, H, by rw [he, hu], Agree.refl _ _, HLe.refl _, g.call ha.below (HLe.refl _) (fun _ _ _ h => .inl h) (fun b o v hb => ha.cell b o v (ha.le b o v (hle b o v hb))), ?_⟩
        refine ⟨by cases v <;> simp [SV.flat] at hfl <;> simp [SV.Ok], ha.below.size, fun b hb _ => ha.below.block b hb, fun _ _ _ h => .inl h, fun k o h => .inr ⟨o, h⟩, fun k o h hl => .inr ⟨k, o, h, hl, rfl⟩, ha.below.os, ha.below.tape, ha.below.output⟩
      · cases he
    · rename_i r ps' g' he
      split at he <;> cases he
    · trivial
  | data ps gg =>
    simp only [hs] at hl ⊢
    intro hp
    have hc := hl hp w g1.cell
    rw [e1] at hc
    refine Calls.mono hc fun e w' ⟨u, H', he, ha, hs', hu, hok⟩ => ?_
    exact ⟨hs', E, H', by rw [he, hu], Agree.refl _ _, hle.trans ha.le, g1.call ha.below ha.le ha.fresh ha.cell, hok, ha.below.size, fun b hb _ => ha.below.block b hb, fun b x v h => (by
      rcases ha.fresh b x v h with h1 | h1
      · exact (nw b x v h1).imp id .inr
      · exact .inr (.inl h1)), fun k o h => .inr (hpm k o h).1, fun k o h hl => .inr ⟨k, o, (hpm k o h).2 hl, hl, rfl⟩, ha.below.os, ha.below.tape, ha.below.output⟩
end
end Sx
end
section
namespace Sx
open Go

def subC : Code → List Nat → Code
  | c, [] => c
  | .seq a _, 0 :: r => subC a r
  | .seq _ b, 1 :: r => subC b r
  | .cond _ a _, 0 :: r => subC a r
  | .cond _ _ b, 1 :: r => subC b r
  | .block _ b, 0 :: r => subC b r
  | .loop b, 0 :: r => subC b r
  | .scope b, 0 :: r => subC b r
  | .rangeFunc _ _ a _, 0 :: r => subC a r
  | .rangeFunc _ _ _ b, 1 :: r => subC b r
  | c, _ => c
def cAt (P : Program) (f : FuncId) (p : List Nat) : Code :=
  match P.funcs[f]? with
  | some fn => match fn.body with
    | some b => subC b p
    | none => .skip
  | none => .skip
def opsAt (P : Program) (f : FuncId) (p : List Nat) : Array Oper :=
  match cAt P f p with
  | .region _ ops _ => ops
  | _ => #[]

def slotS (l : List (Nat × SV)) (t : Nat) (d : SV) : SV :=
  match l with
  | [] => d
  | (u, v) :: r => if u == t then v else slotS r t d
def mkJ (d : Nat) (l : List (Nat × SV)) : Nat → Nat → List SV
  | _, 0 => []
  | t, n + 1 => slotS l t (.junk (1000 * d + t)) :: mkJ d l (t + 1) n
def mkU (l : List (Nat × SV)) : Nat → Nat → List SV
  | _, 0 => []
  | t, n + 1 => slotS l t .undef :: mkU l (t + 1) n
def mkL (f : FuncId) (todo : List Item) (n : Nat) (l : List (Nat × SV)) (m : Mem) : Conf := ⟨⟨f, none, none, todo, mkJ 0 l 0 n⟩, [], m⟩
end Sx
end
section
namespace Sx
open Go RowKit

def mkInts (h : Hd) (s : Nat) (xs : List Int) : D := .slc h s (xs.map fun x => [.int .i64 x])
def D.ints (d : D) : List Int := d.rows.map fun r => match r with | .int _ n :: _ => n | _ => 0

def D.IsInts (d : D) : Prop := ∃ h s xs, d = mkInts h s xs

section
variable (h : Hd) (s : Nat) (xs : List Int)
@[simp] theorem mkInts_len : (mkInts h s xs).len = xs.length := by simp [mkInts, D.len, D.rows]
@[simp] theorem mkInts_sz : (mkInts h s xs).sz = s := rfl
@[simp] theorem mkInts_hd : (mkInts h s xs).hd = h := rfl
@[simp] theorem mkInts_isNil : (mkInts h s xs).isNil = h.isNone := rfl
@[simp] theorem mkInts_ints : (mkInts h s xs).ints = xs := by
  simp only [mkInts, D.ints, D.rows, List.map_map]
  have : ((fun r : List D => match r with | .int _ n :: _ => n | _ => 0) ∘ fun x : Int => [D.int .i64 x]) = id := by funext x; rfl
  rw [this]; simp
@[simp] theorem mkInts_is : (mkInts h s xs).IsInts := ⟨h, s, xs, rfl⟩
@[simp] theorem mkInts_slc : (mkInts h s xs).IsSlc := ⟨h, s, _, rfl⟩
theorem mkInts_cellAt (i j : Nat) : (mkInts h s xs).cellAt i j = if j = 0 then (xs[i]?).map (D.int .i64) else none := by
  simp only [mkInts, D.cellAt, D.rows, List.getElem?_map]
  cases xs[i]? with
  | none => simp
  | some x => cases j <;> simp
@[simp] theorem mkInts_getInt (i : Nat) : (mkInts h s xs).getInt i 0 = xs.getD i 0 := by
  simp only [D.getInt, mkInts_cellAt, if_true, List.getD_eq_getElem?_getD]
  cases xs[i]? <;> rfl
@[simp] theorem mkInts_has (i : Nat) : (mkInts h s xs).HasCell i 0 (.int .i64) ↔ i < xs.length := by
  simp only [D.HasCell, mkInts_cellAt, if_true]
  constructor
  · rintro ⟨n, hn⟩
    cases hx : xs[i]? with
    | none => simp [hx] at hn
    | some x => exact (List.getElem?_eq_some_iff.1 hx).1
  · intro hi
    exact ⟨xs[i], by simp [hi]⟩
end
theorem wrap64 {n : Int} (h1 : -9223372036854775808 ≤ n) (h2 : n ≤ 9223372036854775807) : IntKind.i64.wrap n = n := by
  unfold IntKind.wrap
  simp only [IntKind.bits, IntKind.signed]
  by_cases h : n % 2 ^ 64 ≥ 2 ^ (64 - 1)
  · simp [h]; omega
  · simp [h]; omega
end Sx
end
section
namespace Sx
open Go RowKit

theorem noCtr (P : Program) : Ctrs.Ok P [] := fun _ h => by cases h
def env0 : Env := ⟨fun _ => 0, fun _ => (none, 0), fun _ => .bool false⟩
theorem runs_loop {P : Program} {C : Ctx} {R : Value → World → Prop} {σ : Type} (L : σ → Conf) (I : σ → Prop) (m : σ → Nat) (hri : ∀ s, (L s).top.ri = none)
    (hstep : ∀ s, I s → (∀ s', I s' → m s' < m s → Runs P C (L s') R) → Runs P C (unroll (L s)) R) : ∀ s, I s → Runs P C (L s) R := by
  have key : ∀ k s, m s = k → I s → Runs P C (L s) R := by
    intro k
    induction k using Nat.strongRecOn with
    | _ k ih =>
      intro s hk hI
      exact unroll_sound (hri s) (hstep s hI fun s' hI' hlt => ih (m s') (by omega) s' rfl hI')
  exact fun s hI => key _ s rfl hI
def SV.d? : SV → Option D
  | .nils => some (.slc none 0 [])
  | .dat d => some d
  | _ => none

theorem SV.d?_spec {H : HV} {E : Env} {v : SV} {d : D} (h : v.d? = some d) (hok : v.Ok H) : v.den E = d.val ∧ d.Ok H := by
  cases v <;> simp [SV.d?] at h <;> subst h
  · exact ⟨by simp [SV.den, D.val, hval], .nil 0⟩
  · exact ⟨by simp [SV.den], hok.1⟩


@[simp] theorem holds_br {P : Program} {C : Ctx} {R : Value → World → Prop} {b : Bool} {t f : Tree} : (Tree.br b t f).holds P C R ↔ (b = true → t.holds P C R) ∧ (b = false → f.holds P C R) := Iff.rfl
theorem ret_plain {P : Program} {w : World} {H : HV} {v : SV} {u : Value} (h : ∀ E, v.den E = u) : (Tree.ret v).holds P ⟨w, H⟩ fun v w' => ∃ H', After w H w' H' ∧ v = u :=
  ⟨rfl, fun E H' w' g _ => ⟨H', after_good g, h E⟩⟩
theorem law_of {P : Program} {f : FuncId} {spec : List SV → SpecR} (hb : Bodied P f = true)
    (hs : ∀ args ps v, spec args = .scalar ps v → ∀ (H : HV) (E : Env), SV.OkL H args → (∀ p, p ∈ ps → p) → PCall P f H (SV.denL E args) fun _ u => u = v.den E)
    (hd : ∀ args ps g, spec args = .data ps g → ∀ (H : HV) (E : Env), SV.OkL H args → (∀ p, p ∈ ps → p) → PCall P f H (SV.denL E args) fun H' u => ∃ hs, u = (g hs).den E ∧ (g hs).Ok H') : Law P f spec := by
  refine ⟨hb, fun H E args hargs => ?_⟩
  cases h : spec args with
  | scalar ps v => exact hs args ps v h H E hargs
  | data ps g => exact hd args ps g h H E hargs
  | no => trivial
end Sx
end
section
namespace Sx
open Go RowKit

class Codec (α : Type) where
  sz : Nat
  ok : List D → Prop
  dec : List D → α
  enc : α → List D
  ok_enc : ∀ a, ok (enc a)
  dec_enc : ∀ a, dec (enc a) = a
  len : ∀ r, ok r → r.length = sz

section
variable (α : Type) [Codec α]
def D.Is (d : D) : Prop := ∃ h s rows, d = .slc h s rows ∧ (rows = [] ∨ s = Codec.sz α) ∧ ∀ r, r ∈ rows → Codec.ok α r
def D.to (d : D) : List α := d.rows.map (Codec.dec (α := α))
end

section
variable {α : Type} [Codec α]

open Classical in
noncomputable def D.like (d : D) (xs : List α) : D := if d.Is α ∧ d.to α = xs then d else .slc none (Codec.sz α) (xs.map Codec.enc)

theorem D.like_is (d : D) (xs : List α) : (d.like xs).Is α := by
  unfold D.like
  split
  · rename_i h; exact h.1
  · exact ⟨_, _, _, rfl, .inr rfl, fun r hr => by obtain ⟨x, _, rfl⟩ := List.mem_map.1 hr; exact Codec.ok_enc x⟩

theorem D.like_to (d : D) (xs : List α) : (d.like xs).to α = xs := by
  unfold D.like
  split
  · rename_i h; exact h.2
  · simp only [D.to, D.rows, List.map_map]
    conv => rhs; rw [← List.map_id xs]
    exact List.map_congr_left fun x _ => Codec.dec_enc x

theorem D.like_self {d : D} {xs : List α} (h : d.Is α) (h' : d.to α = xs) : d.like xs = d := by
  unfold D.like
  rw [if_pos ⟨h, h'⟩]

theorem D.Is.slc {d : D} (h : d.Is α) : d.IsSlc := by obtain ⟨a, b, c, rfl, _⟩ := h; exact ⟨a, b, c, rfl⟩

theorem D.Is.length (d : D) : d.len = (d.to α).length := by simp [D.len, D.to]

theorem D.Is.size {d : D} (h : d.Is α) {i : Nat} (hi : i < (d.to α).length) : d.sz = Codec.sz α := by
  obtain ⟨a, b, c, rfl, h1, h2⟩ := h
  rcases h1 with rfl | h1
  · simp [D.to, D.rows] at hi
  · exact h1

theorem D.Is.fits {d : D} (h : d.Is α) : d.Fits (Codec.sz α) := by
  obtain ⟨a, b, c, rfl, h1, h2⟩ := h
  exact h1
theorem D.Is.row {d : D} (h : d.Is α) {i : Nat} (hi : i < (d.to α).length) : ∃ r, d.rows[i]? = some r ∧ Codec.ok α r ∧ (d.to α)[i] = Codec.dec r := by
  obtain ⟨a, b, c, rfl, h1, h2⟩ := h
  simp only [D.to, D.rows, List.length_map] at hi
  refine ⟨c[i], by simp [D.rows, hi], h2 _ (List.getElem_mem hi), by simp [D.to, D.rows]⟩
theorem is_rows {h : Hd} {rows : List (List D)} {s : Nat} (hs : s = Codec.sz α) (hr : ∀ r, r ∈ rows → Codec.ok α r) : (D.slc h s rows).Is α := ⟨_, _, _, rfl, .inr hs, hr⟩

theorem is_nil (h : Hd) (s : Nat) : (D.slc h s []).Is α := ⟨_, _, _, rfl, .inl rfl, by simp⟩
theorem D.Is.sub {d : D} (hd : d.Is α) (l h : Nat) : (d.sub l h).Is α ∧ (d.sub l h).to α = ((d.to α).drop l).take (h - l) := by
  obtain ⟨a, b, c, rfl, h1, h2⟩ := hd
  refine ⟨⟨_, _, _, rfl, ?_, fun r hr => h2 r (List.mem_of_mem_drop (List.mem_of_mem_take hr))⟩, ?_⟩
  · rcases h1 with rfl | h1
    · left; simp [D.rows]
    · exact .inr h1
  · simp [D.sub, D.to, D.rows, List.map_take, List.map_drop]

theorem D.Is.sub3 {d : D} (hd : d.Is α) (l h : Nat) : (d.sub3 l h).Is α ∧ (d.sub3 l h).to α = ((d.to α).drop l).take (h - l) := by
  obtain ⟨a, b, c, rfl, h1, h2⟩ := hd
  refine ⟨⟨_, _, _, rfl, ?_, fun r hr => h2 r (List.mem_of_mem_drop (List.mem_of_mem_take hr))⟩, ?_⟩
  · rcases h1 with rfl | h1
    · left; simp [D.rows]
    · exact .inr h1
  · simp [D.sub3, D.to, D.rows, List.map_take, List.map_drop]
end

/-! Numbers. -/
instance : Codec Int where
  sz := 1
  ok r := ∃ n, r = [.int .i64 n]
  dec r := match r with | .int _ n :: _ => n | _ => 0
  enc n := [.int .i64 n]
  ok_enc n := ⟨n, rfl⟩
  dec_enc _ := rfl
  len r := by rintro ⟨n, rfl⟩; rfl

/-! Bytes. -/
structure Byte where
  n : Int
deriving DecidableEq

instance : Codec Byte where
  sz := 1
  ok r := ∃ n, r = [.int .u8 n]
  dec r := match r with | .int _ n :: _ => ⟨n⟩ | _ => ⟨0⟩
  enc n := [.int .u8 n.n]
  ok_enc n := ⟨n.n, rfl⟩
  dec_enc _ := rfl
  len r := by rintro ⟨n, rfl⟩; rfl

instance : Codec Bool where
  sz := 1
  ok r := ∃ b, r = [.bool b]
  dec r := match r with | .bool b :: _ => b | _ => false
  enc b := [.bool b]
  ok_enc b := ⟨b, rfl⟩
  dec_enc _ := rfl
  len r := by rintro ⟨n, rfl⟩; rfl

@[simp] theorem sz_int : Codec.sz Int = 1 := rfl
@[simp] theorem sz_byte : Codec.sz Byte = 1 := rfl
@[simp] theorem sz_bool : Codec.sz Bool = 1 := rfl
@[simp] theorem ok_int (n : Int) : Codec.ok Int [.int .i64 n] := ⟨n, rfl⟩
@[simp] theorem dec_int (n : Int) : (Codec.dec [.int .i64 n] : Int) = n := rfl
@[simp] theorem ok_bool (b : Bool) : Codec.ok Bool [.bool b] := ⟨b, rfl⟩
@[simp] theorem dec_bool (b : Bool) : (Codec.dec [.bool b] : Bool) = b := rfl
@[simp] theorem ok_byte (n : Int) : Codec.ok Byte [.int .u8 n] := ⟨n, rfl⟩

theorem int_cell {d : D} (h : d.Is Int) {i : Nat} (hi : i < (d.to Int).length) : d.getInt i 0 = (d.to Int)[i] ∧ d.HasCell i 0 (.int .i64) := by
  obtain ⟨r, h1, ⟨n, rfl⟩, h3⟩ := h.row hi
  rw [h3]
  exact ⟨by simp [D.getInt, D.cellAt, h1], n, by simp [D.cellAt, h1]⟩

theorem bool_cell {d : D} (h : d.Is Bool) {i : Nat} (hi : i < (d.to Bool).length) : d.getBool i 0 = (d.to Bool)[i] ∧ d.HasCell i 0 .bool := by
  obtain ⟨r, h1, ⟨n, rfl⟩, h3⟩ := h.row hi
  rw [h3]
  exact ⟨by simp [D.getBool, D.cellAt, h1], n, by simp [D.cellAt, h1]⟩

end Sx
namespace Sx
@[simp] theorem len_slc (h : Hd) (s : Nat) (rows : List (List D)) : (D.slc h s rows).len = rows.length := rfl
@[simp] theorem rows_slc (h : Hd) (s : Nat) (rows : List (List D)) : (D.slc h s rows).rows = rows := rfl
@[simp] theorem sz_slc (h : Hd) (s : Nat) (rows : List (List D)) : (D.slc h s rows).sz = s := rfl
@[simp] theorem hd_slc (h : Hd) (s : Nat) (rows : List (List D)) : (D.slc h s rows).hd = h := rfl
@[simp] theorem append_list {α : Type _} (a b : List α) : List.append a b = a ++ b := rfl
def SRows (α : Type) [Codec α] (rows : List (List D)) (xs : List α) : Prop := (∀ r, r ∈ rows → Codec.ok α r) ∧ rows.map Codec.dec = xs

section
variable {α : Type} [Codec α]
theorem rows_of {d : D} (h : d.Is α) : SRows α d.rows (d.to α) := by
  obtain ⟨a, b, c, rfl, _, h2⟩ := h
  exact ⟨h2, rfl⟩
theorem rows_app {a b : List (List D)} {xs ys : List α} (h : SRows α a xs) (h' : SRows α b ys) : SRows α (List.append a b) (xs ++ ys) := by
  refine ⟨fun r hr => ?_, by simp [h.2, h'.2]⟩
  rcases List.mem_append.1 hr with hr | hr
  · exact h.1 r hr
  · exact h'.1 r hr
theorem rows_one {r : List D} {x : α} (h : Codec.ok α r) (h' : Codec.dec r = x) : SRows α [r] [x] :=
  ⟨fun s hs => by rw [List.mem_singleton.1 hs]; exact h, by simp [h']⟩
theorem rows_len {rows : List (List D)} {xs : List α} (h : SRows α rows xs) : rows.length = xs.length := by rw [← h.2]; simp
theorem is_of {h : Hd} {s : Nat} {rows : List (List D)} {xs : List α} (hs : s = Codec.sz α) (hr : SRows α rows xs) : (D.slc h s rows).Is α ∧ (D.slc h s rows).to α = xs := ⟨is_rows hs hr.1, hr.2⟩
def Stands (α : Type) [Codec α] (X : SV) (xs : List α) : Prop := ∃ d : D, (∀ E, X.den E = d.val) ∧ d.Is α ∧ d.to α = xs ∧ ∀ H, X.Ok H → d.Ok H

theorem stands_nils : Stands α .nils [] := ⟨.slc none 0 [], fun _ => by simp [SV.den, D.val, hval], is_nil _ _, rfl, fun _ _ => .nil 0⟩
theorem stands_dat {d : D} {xs : List α} (h : d.Is α) (h' : d.to α = xs) : Stands α (.dat d) xs := ⟨d, fun _ => by simp [SV.den], h, h', fun _ h => h.1⟩
theorem stands_like {d : D} {xs : List α} : Stands α (.dat (d.like xs)) xs := stands_dat (D.like_is d xs) (D.like_to d xs)
end
theorem nil_rows {H : HV} {d : D} (hok : d.Ok H) (hn : d.isNil = true) : d.rows = [] := by
  cases hok with
  | nil => rfl
  | slc a c sz rows => simp [D.isNil, D.hd] at hn
  | _ => rfl
end Sx
end
section
namespace Sx
open Go RowKit
structure Rd (β : Type) where
  read : List SV → Option β
  canon : β → List SV
  right : ∀ (H : HV) (E : Env) (args : List SV) (b : β), read args = some b → SV.OkL H args → SV.denL E args = SV.denL E (canon b) ∧ SV.OkL H (canon b)
structure Rd1 (β : Type) where
  read : SV → Option β
  canon : β → SV
  right : ∀ (H : HV) (E : Env) (x : SV) (b : β), read x = some b → x.Ok H → x.den E = (canon b).den E ∧ (canon b).Ok H

def Rd.sp {β : Type} (r : Rd β) (spec : β → SpecR) (args : List SV) : SpecR :=
  match r.read args with
  | some b => spec b
  | none => .no

def Rd1.one {α : Type} (a : Rd1 α) : Rd α where
  read l := match l with | [x] => a.read x | _ => none
  canon b := [a.canon b]
  right H E args b h hok := by
    split at h
    · obtain ⟨h1, h2⟩ := a.right H E _ b h hok.1
      exact ⟨by simp only [SV.denL, h1], h2, trivial⟩
    · cases h

def Rd1.two {α β : Type} (a : Rd1 α) (b : Rd1 β) : Rd (α × β) where
  read l := match l with
    | [x, y] => match a.read x, b.read y with
      | some p, some q => some (p, q)
      | _, _ => none
    | _ => none
  canon p := [a.canon p.1, b.canon p.2]
  right H E args p h hok := by
    split at h
    · split at h
      · rename_i h1 h2
        cases h
        obtain ⟨i1, i2⟩ := a.right H E _ _ h1 hok.1
        obtain ⟨j1, j2⟩ := b.right H E _ _ h2 hok.2.1
        exact ⟨by simp only [SV.denL, i1, j1], i2, j2, trivial⟩
      · cases h
    · cases h

def Rd1.three {α β γ : Type} (a : Rd1 α) (b : Rd1 β) (c : Rd1 γ) : Rd (α × β × γ) where
  read l := match l with
    | [x, y, z] => match a.read x, b.read y, c.read z with
      | some p, some q, some r => some (p, q, r)
      | _, _, _ => none
    | _ => none
  canon p := [a.canon p.1, b.canon p.2.1, c.canon p.2.2]
  right H E args p h hok := by
    split at h
    · split at h
      · rename_i h1 h2 h3
        cases h
        obtain ⟨i1, i2⟩ := a.right H E _ _ h1 hok.1
        obtain ⟨j1, j2⟩ := b.right H E _ _ h2 hok.2.1
        obtain ⟨k1, k2⟩ := c.right H E _ _ h3 hok.2.2.1
        exact ⟨by simp only [SV.denL, i1, j1, k1], i2, j2, k2, trivial⟩
      · cases h
    · cases h

def Rd1.four {α β γ δ : Type} (a : Rd1 α) (b : Rd1 β) (c : Rd1 γ) (d : Rd1 δ) : Rd (α × β × γ × δ) where
  read l := match l with
    | [x, y, z, u] => match a.read x, b.read y, c.read z, d.read u with
      | some p, some q, some r, some s => some (p, q, r, s)
      | _, _, _, _ => none
    | _ => none
  canon p := [a.canon p.1, b.canon p.2.1, c.canon p.2.2.1, d.canon p.2.2.2]
  right H E args p h hok := by
    split at h
    · split at h
      · rename_i h1 h2 h3 h4
        cases h
        obtain ⟨i1, i2⟩ := a.right H E _ _ h1 hok.1
        obtain ⟨j1, j2⟩ := b.right H E _ _ h2 hok.2.1
        obtain ⟨k1, k2⟩ := c.right H E _ _ h3 hok.2.2.1
        obtain ⟨l1, l2⟩ := d.right H E _ _ h4 hok.2.2.2.1
        exact ⟨by simp only [SV.denL, i1, j1, k1, l1], i2, j2, k2, l2, trivial⟩
      · cases h
    · cases h
def rdInt : Rd1 Int where
  read x := match x with | .int .i64 n => some n | _ => none
  canon n := .int .i64 n
  right H E x b h hok := by
    split at h
    · cases h; exact ⟨rfl, trivial⟩
    · cases h
def rdBool : Rd1 Bool where
  read x := match x with | .bool b => some b | .lb b => some b | _ => none
  canon b := .bool b
  right H E x b h hok := by
    split at h
    · cases h; exact ⟨rfl, trivial⟩
    · cases h; exact ⟨by simp [SV.den], trivial⟩
    · cases h
def rdD : Rd1 D where
  read x := x.d?
  canon d := .dat d
  right H E x d h hok := by
    obtain ⟨h1, h2⟩ := SV.d?_spec (E := E) h hok
    refine ⟨by simpa [SV.den] using h1, h2, ?_⟩
    cases x <;> simp [SV.d?] at h
    · subst h; exact ⟨_, _, _, rfl⟩
    · subst h; exact hok.2
def RetS (w : World) (H : HV) (v : SV) : Value → World → Prop := fun u w' => ∃ H', After w H w' H' ∧ ∀ E, u = v.den E
def RetD (w : World) (H : HV) (g : (Nat → D) → SV) : Value → World → Prop := fun u w' => ∃ H', After w H w' H' ∧ ∃ ds, (∀ E, u = (g ds).den E) ∧ (g ds).Ok H'

section
variable {P : Program} {w : World} {H : HV}

theorem ret_S {v v' : SV} (h : ∀ E E', v.den E = v'.den E') : (Tree.ret v).holds P ⟨w, H⟩ (RetS w H v') :=
  ⟨rfl, fun E H' _ g _ => ⟨H', after_good g, fun E' => h E E'⟩⟩

theorem ret_int {k : IntKind} {a b : Int} (h : a = b) : (Tree.ret (.int k a)).holds P ⟨w, H⟩ (RetS w H (.int k b)) := by
  subst h; exact ret_S fun _ _ => rfl

theorem ret_bool {a b : Bool} (h : a = b) : (Tree.ret (.bool a)).holds P ⟨w, H⟩ (RetS w H (.bool b)) := by
  subst h; exact ret_S fun _ _ => rfl

theorem ret_lb {a b : Bool} (h : a = b) : (Tree.ret (.lb a)).holds P ⟨w, H⟩ (RetS w H (.bool b)) := by
  subst h; exact ret_S fun _ _ => by simp [SV.den]

theorem ret_D {v : SV} {g : (Nat → D) → SV} (ds : Nat → D) (h : ∀ E E', v.den E = (g ds).den E') (hok : ∀ H', v.Ok H' → (g ds).Ok H') : (Tree.ret v).holds P ⟨w, H⟩ (RetD w H g) :=
  ⟨rfl, fun E H' _ gd hv => ⟨H', after_good gd, ds, fun E' => h E E', hok H' hv⟩⟩

theorem StkRun.mono {X : CtxX} {R R' : Value → World → Prop} (hr : ∀ v w, R v w → R' v w) : ∀ {r : List CFrm} {c : CFrm} {w : World}, StkRun P X c r w R → StkRun P X c r w R'
  | [], _, _, h => CFrm.run_mono h hr
  | _ :: _, _, _, h => CFrm.run_mono h fun _ _ h' => StkRun.mono hr h'

theorem Runs.mono {C : Ctx} {c : Conf} {R R' : Value → World → Prop} (h : Runs P C c R) (hr : ∀ v w, R v w → R' v w) : Runs P C c R' :=
  fun E H w g ok => StkRun.mono hr (h E H w g ok)

theorem law_in {f : FuncId} {β : Type} (r : Rd β) {spec : β → SpecR} (hb : Bodied P f = true)
    (h : ∀ (H : HV) (w : World) (b : β), SV.OkL H (r.canon b) → match spec b with
      | .scalar ps v => (∀ p, p ∈ ps → p) → Runs P ⟨w, H⟩ (entry P f (r.canon b)) (RetS w H v)
      | .data ps g => (∀ p, p ∈ ps → p) → Runs P ⟨w, H⟩ (entry P f (r.canon b)) (RetD w H g)
      | .no => True) : Law P f (r.sp spec) := by
  refine ⟨hb, fun H E args hargs => ?_⟩
  unfold Rd.sp
  cases hr : r.read args with
  | none => trivial
  | some b =>
    simp only
    obtain ⟨h1, h2⟩ := r.right H E args b hr hargs
    rw [h1]
    cases hs : spec b with
    | no => trivial
    | scalar ps v =>
      intro hp
      refine pcall hb h2 E fun w => ?_
      have := h H w b h2
      rw [hs] at this
      exact (this hp).mono fun u w2 ⟨H2, ha, hu⟩ => ⟨H2, ha, hu E⟩
    | data ps g =>
      intro hp
      refine pcall hb h2 E fun w => ?_
      have := h H w b h2
      rw [hs] at this
      exact (this hp).mono fun u w2 ⟨H2, ha, ds, hu, hok⟩ => ⟨H2, ha, ds, hu E, hok⟩

@[simp] theorem holds_need {C : Ctx} {R : Value → World → Prop} {p : Prop} {t : Tree} : (Tree.need p t).holds P C R ↔ p ∧ t.holds P C R := Iff.rfl
@[simp] theorem holds_all {C : Ctx} {R : Value → World → Prop} {f : (Nat → Nat → D) → Tree} : (Tree.all f).holds P C R ↔ ∀ hs, (f hs).holds P C R := Iff.rfl
end

theorem wrap_succ {j n : Nat} (h : j < n) (hn : n ≤ 1048576) : IntKind.i64.wrap ((j : Int) + 1) = ((j + 1 : Nat) : Int) := by
  rw [wrap64 (by omega) (by omega)]; simp

theorem getD_lt {xs : List Int} {j : Nat} (h : j < xs.length) : xs.getD j 0 = xs[j] := by simp [h]

theorem take_has {xs : List Int} {j : Nat} (h : j < xs.length) (n : Int) : (xs.take (j + 1)).contains n = ((xs.take j).contains n || (xs[j] == n)) := by
  rw [List.take_succ_eq_append_getElem h]
  simp only [List.contains_eq_any_beq, List.any_append, List.any_cons, List.any_nil, Bool.or_false]
  congr 1
  exact Bool.beq_comm
theorem int_at {d : D} (hd : d.Is Int) {j : Nat} (hj : j < (d.to Int).length) :
    (0 ≤ (j : Int) ∧ (j : Int) < (d.len : Int) ∧ d.sz = 1) ∧ d.HasCell (Int.toNat j) 0 (.int .i64) ∧ d.getInt (Int.toNat j) 0 = (d.to Int)[j] := by
  obtain ⟨h1, h2⟩ := int_cell hd hj
  exact ⟨⟨by omega, by rw [D.Is.length (α := Int)]; omega, by rw [hd.size hj]; rfl⟩, h2, h1⟩

end Sx
end
section
namespace Sx
open Go RowKit
inductive TS where
  | int (k : IntKind)
  | bool
  | slc (e : TS)
  | st (fs : List TS)
  | arr (n : Nat) (e : TS)

mutual
def TS.sz : TS → Nat
  | .int _ => 1
  | .bool => 1
  | .slc _ => 1
  | .st fs => TS.szL fs
  | .arr n e => n * e.sz
def TS.szL : List TS → Nat
  | [] => 0
  | f :: r => f.sz + TS.szL r
end

mutual
def TS.fits (P : Program) : TS → TypeId → Bool
  | .int k, t => match P.underlying t with | some (.int k') => k' == k | _ => false
  | .bool, t => match P.underlying t with | some .bool => true | _ => false
  | .slc e, t => match P.underlying t with | some (.slice e') => e.fits P e' && P.cellsOf e' == e.sz && decide (0 < e.sz) | _ => false
  | .st fs, t => match P.underlying t with | some (.struct gs) => P.cellsOf t == TS.szL fs && TS.fitsL P fs gs.toList 0 | _ => false
  | .arr n e, t => match P.underlying t with | some (.array n' e') => n' == n && P.cellsOf t == n * e.sz && P.cellsOf e' == e.sz && e.fits P e' | _ => false
def TS.fitsL (P : Program) : List TS → List Field → Nat → Bool
  | [], [], _ => true
  | f :: fs, g :: gs, off => g.offset == off && P.cellsOf g.type == f.sz && f.fits P g.type && TS.fitsL P fs gs (off + f.sz)
  | _, _, _ => false
end

mutual
def TS.Sh : TS → List D → Prop
  | .int k, ds => ∃ n, ds = [.int k n] ∧ (Lit.int k n).wf = true
  | .bool, ds => ∃ b, ds = [.bool b]
  | .slc e, ds => ∃ h s rows, ds = [.slc h s rows] ∧ (rows = [] ∨ s = e.sz) ∧ rows.length ≤ maxLen ∧ ∀ r, r ∈ rows → e.Sh r
  | .st fs, ds => TS.ShL fs ds
  | .arr n e, ds => ∃ l : List (List D), ds = l.flatten ∧ l.length = n ∧ ∀ r, r ∈ l → e.Sh r
def TS.ShL : List TS → List D → Prop
  | [], ds => ds = []
  | f :: r, ds => ∃ a b, ds = a ++ b ∧ f.Sh a ∧ TS.ShL r b
end
def allOf (w : World) : HV := fun b o => w.cell? ⟨b, o, none⟩
theorem allOf_in (w : World) : InMem (allOf w) w := fun _ _ _ h => h

section
variable {H : Type} {enc : TypeId × Value → H} {P : Program} {w : World} {base : Nat} {spare : Nat → Bool} {held : Bool}
def Gives (w : World) (ts : TS) (cs : List Value) : Prop := ∃ ds : List D, ds.map D.val = cs ∧ (∀ d, d ∈ ds → d.Ok (allOf w)) ∧ ts.Sh ds ∧ ds.length = ts.sz
def GivesL (w : World) (ts : List TS) (cs : List Value) : Prop := ∃ ds : List D, ds.map D.val = cs ∧ (∀ d, d ∈ ds → d.Ok (allOf w)) ∧ TS.ShL ts ds ∧ ds.length = TS.szL ts

theorem gives_slc {e : TS} {t e' : TypeId} (ht : P.underlying t = some (.slice e')) (hc : P.cellsOf e' = e.sz) (h0 : 0 < e.sz) {fuel : Nat} {cs : List Value} {x : DataW H × List MemPlace}
    (h : DataW.trod enc P w base spare held fuel t cs = some x)
    (ih : ∀ n cs x, DataW.trod enc P w base spare held n e' cs = some x → Gives w e cs) : Gives w (.slc e) cs := by
  rcases Deep.open_slice ht h with ⟨rfl, _⟩ | ⟨a, len, cap, m, n, Df, Pl, rfl, hb, hl, hm, hmm, rfl, hx⟩
  · exact ⟨[.slc none 0 []], by simp [D.val, hval], by simp; exact .nil 0, ⟨none, 0, [], rfl, .inl rfl, Nat.zero_le _, by simp⟩, by simp [TS.sz]⟩
  · have hlm : len ≤ m := by rw [hmm]; split <;> omega
    obtain ⟨f, hf⟩ := Deep.choose_lt (α := List D) (n := len) (p := fun i ds => (w.cells? base (a.add (i * P.cellsOf e')) (P.cellsOf e') = some (ds.map D.val)) ∧ (∀ d, d ∈ ds → d.Ok (allOf w)) ∧ e.Sh ds ∧ ds.length = e.sz) (fun i hi => by
      obtain ⟨cs', h1, h2⟩ := hx i (by omega)
      obtain ⟨ds, rfl, h3⟩ := ih _ _ _ h2
      exact ⟨ds, h1, h3⟩)
    have hcell : ∀ i j x, i < len → (f i)[j]? = some x → w.cell? ((a.add (i * e.sz)).add j) = some x.val := by
      intro i j x hi hj
      obtain ⟨h1, _, _, h4⟩ := hf i hi
      obtain ⟨_, _, h2⟩ := World.cells?_some h1
      have hjl : j < P.cellsOf e' := by
        rw [hc, ← h4]
        exact (List.getElem?_eq_some_iff.1 hj).1
      rw [← hc, h2 j hjl, List.getElem?_map, hj]; rfl
    have hspot : 0 < len → a.spot = none := by
      intro hl0
      obtain ⟨_, _, _, h4⟩ := hf 0 hl0
      have := hcell 0 0 _ hl0 (List.getElem?_eq_getElem (by omega : 0 < (f 0).length))
      simp only [Nat.zero_mul, Deep.add_add] at this
      simpa [Addr.add] using World.cell?_spot this
    have hadd : ∀ k, 0 < len → a.add k = ⟨a.block, a.off + k, none⟩ := fun k hl0 => add_none (hspot hl0) k
    refine ⟨[.slc (some (a, cap)) e.sz ((List.range len).map f)], by simp [D.val, hval], ?_, ?_, by simp [TS.sz]⟩
    · intro d hd
      rw [List.mem_singleton.1 hd]
      refine .slc a cap e.sz _ (fun hne => hspot (by rcases Nat.eq_zero_or_pos len with h | h; · subst h; simp at hne
                                                     · exact h)) (by simpa using hl) ?_ ?_ ?_
      · intro r hr
        obtain ⟨i, hi, rfl⟩ := List.mem_map.1 hr
        exact (hf i (List.mem_range.1 hi)).2.2.2
      · intro i j r x hr hj
        rw [List.getElem?_map] at hr
        have hi : i < len := by
          rcases Nat.lt_or_ge i len with h | h
          · exact h
          · simp [List.getElem?_range, h] at hr
        simp [List.getElem?_range, hi] at hr
        subst hr
        have := hcell i j x hi hj
        rw [Deep.add_add, hadd _ (by omega)] at this
        simpa [allOf, Nat.add_assoc] using this
      · intro r hr
        obtain ⟨i, hi, rfl⟩ := List.mem_map.1 hr
        exact (hf i (List.mem_range.1 hi)).2.1
    · simp only [TS.Sh]
      refine ⟨_, _, _, rfl, .inr rfl, by simp; omega, fun r hr => ?_⟩
      obtain ⟨i, hi, rfl⟩ := List.mem_map.1 hr
      exact (hf i (List.mem_range.1 hi)).2.2.1

theorem mapM_some_mem {α β : Type} {f : α → Option β} : ∀ (l : List α) (xs : List β), l.mapM f = some xs → ∀ i, i ∈ l → ∃ y, f i = some y
  | [], _, _, i, h => by cases h
  | a :: l, xs, h, i, hi => by
    simp only [List.mapM_cons, Option.bind_eq_bind, Option.bind_eq_some_iff] at h
    obtain ⟨y, hy, ys, hys, _⟩ := h
    rcases List.mem_cons.1 hi with rfl | hi
    · exact ⟨y, hy⟩
    · exact mapM_some_mem l ys hys i hi
theorem trod_arr {t e : TypeId} {m fuel : Nat} {cs : List Value} {x : DataW H × List MemPlace} (ht : P.underlying t = some (.array m e)) (h : DataW.trod enc P w base spare held fuel t cs = some x) :
    ∃ n, cs.length = P.cellsOf t ∧ ∀ i, i < m → ∃ y, DataW.trod enc P w base spare held n e ((cs.drop (i * P.cellsOf e)).take (P.cellsOf e)) = some y := by
  cases fuel with
  | zero => simp [DataW.trod] at h
  | succ n =>
    unfold DataW.trod at h
    rw [ht] at h
    simp only at h
    split at h
    · rename_i hl
      refine ⟨n, hl, fun i hi => ?_⟩
      cases hm : (List.range m).mapM fun i => DataW.trod enc P w base spare held n e ((cs.drop (i * P.cellsOf e)).take (P.cellsOf e)) with
      | none => rw [hm] at h; cases h
      | some xs =>
        have := mapM_some_mem (List.range m) xs hm i (List.mem_range.2 hi)
        exact this
    · cases h

theorem pieces {α : Type} (s : Nat) : ∀ (n : Nat) (cs : List α), cs.length = n * s → ((List.range n).map fun i => (cs.drop (i * s)).take s).flatten = cs
  | 0, cs, h => by simp at h; subst h; rfl
  | n + 1, cs, h => by
    rw [List.range_succ_eq_map, List.map_cons, List.flatten_cons, List.map_map]
    have := pieces s n (cs.drop s) (by rw [List.length_drop, h, Nat.add_mul]; omega)
    have e : ((fun i => (cs.drop (i * s)).take s) ∘ Nat.succ) = fun i => ((cs.drop s).drop (i * s)).take s := by
      funext i; simp only [Function.comp, List.drop_drop]; congr 2; simp only [Nat.succ_eq_add_one]; rw [Nat.add_mul]; omega
    rw [e, this]
    simp

mutual
theorem gives (ts : TS) (t : TypeId) (hfit : ts.fits P t = true) (fuel : Nat) (cs : List Value) (x : DataW H × List MemPlace)
    (h : DataW.trod enc P w base spare held fuel t cs = some x) : Gives w ts cs := by
  match ts, hfit with
  | .int k, hfit =>
    unfold TS.fits at hfit
    split at hfit
    · rename_i k' ht
      simp only [beq_iff_eq] at hfit
      subst hfit
      obtain ⟨n, rfl, _, hw⟩ := DataW.trod_int ht h
      exact ⟨[.int k' n], rfl, by simp; exact .int _ _, by simp [TS.Sh, hw], by simp [TS.sz]⟩
    · cases hfit
  | .bool, hfit =>
    unfold TS.fits at hfit
    split at hfit
    · rename_i ht
      obtain ⟨n, rfl, _⟩ := DataW.trod_bool ht h
      exact ⟨[.bool n], rfl, by simp; exact .bool _, by simp [TS.Sh], by simp [TS.sz]⟩
    · cases hfit
  | .slc e, hfit =>
    unfold TS.fits at hfit
    split at hfit
    · rename_i e' ht
      simp only [Bool.and_eq_true, beq_iff_eq, decide_eq_true_eq] at hfit
      exact gives_slc ht hfit.1.2 hfit.2 h fun n cs x h' => gives e e' hfit.1.1 n cs x h'
    · cases hfit
  | .st fs, hfit =>
    unfold TS.fits at hfit
    split at hfit
    · rename_i gs ht
      simp only [Bool.and_eq_true, beq_iff_eq] at hfit
      obtain ⟨xs, n, _, _, hlen, hxl, hfld⟩ := DataW.trod_struct ht h
      have := givesL fs gs.toList 0 hfit.2 n cs (by simpa using hlen.trans hfit.1) (fun g hg => by
        obtain ⟨i, hi, hgi⟩ := List.mem_iff_getElem.1 hg
        have h1 := hfld i g (by simpa using (Array.getElem?_eq_some_iff.2 ⟨by simpa using hi, by simpa using hgi⟩))
        rw [List.getElem?_eq_getElem (by rw [hxl]; simpa using hi)] at h1
        exact ⟨_, h1⟩)
      obtain ⟨ds, h1, h2, h3, h4⟩ := this
      exact ⟨ds, by simpa using h1, h2, by simpa [TS.Sh] using h3, by simpa [TS.sz] using h4⟩
    · cases hfit
  | .arr m e, hfit =>
    unfold TS.fits at hfit
    split at hfit
    · rename_i m' e' ht
      simp only [Bool.and_eq_true, beq_iff_eq] at hfit
      obtain ⟨⟨⟨rfl, hf1⟩, hf2⟩, hf3⟩ := hfit
      obtain ⟨n, hlen, hx⟩ := trod_arr ht h
      obtain ⟨f, hf⟩ := Deep.choose_lt (α := List D) (n := m') (p := fun i ds => ds.map D.val = (cs.drop (i * P.cellsOf e')).take (P.cellsOf e') ∧ (∀ d, d ∈ ds → d.Ok (allOf w)) ∧ e.Sh ds ∧ ds.length = e.sz) (fun i hi => by
        obtain ⟨y, hy⟩ := hx i hi
        exact gives e e' hf3 n _ y hy)
      refine ⟨((List.range m').map f).flatten, ?_, ?_, ?_, ?_⟩
      · rw [← pieces (P.cellsOf e') m' cs (by rw [hlen, hf1, hf2]), List.map_flatten, List.map_map]
        congr 1
        exact List.map_congr_left fun i hi => (hf i (List.mem_range.1 hi)).1
      · intro d hd
        obtain ⟨r, hr, hd⟩ := List.mem_flatten.1 hd
        obtain ⟨i, hi, rfl⟩ := List.mem_map.1 hr
        exact (hf i (List.mem_range.1 hi)).2.1 d hd
      · simp only [TS.Sh]
        refine ⟨_, rfl, by simp, fun r hr => ?_⟩
        obtain ⟨i, hi, rfl⟩ := List.mem_map.1 hr
        exact (hf i (List.mem_range.1 hi)).2.2.1
      · rw [List.length_flatten, List.map_map]
        have : (List.range m').map (List.length ∘ f) = List.replicate m' e.sz := by
          rw [List.eq_replicate_iff]
          refine ⟨by simp, fun b hb => ?_⟩
          obtain ⟨i, hi, rfl⟩ := List.mem_map.1 hb
          exact (hf i (List.mem_range.1 hi)).2.2.2
        rw [this]; simp [TS.sz]
    · cases hfit
theorem givesL (ts : List TS) (gs : List Field) (off : Nat) (hfit : TS.fitsL P ts gs off = true) (n : Nat) (cs : List Value) (hlen : cs.length = off + TS.szL ts)
    (h : ∀ g, g ∈ gs → ∃ x, DataW.trod enc P w base spare held n g.type ((cs.drop g.offset).take (P.cellsOf g.type)) = some x) : GivesL w ts (cs.drop off) := by
  match ts, gs, hfit with
  | [], [], hfit =>
    refine ⟨[], ?_, by simp, by simp [TS.ShL], by simp [TS.szL]⟩
    simp only [TS.szL] at hlen
    rw [List.drop_eq_nil_of_le (by omega)]; rfl
  | [], _ :: _, hfit => simp [TS.fitsL] at hfit
  | _ :: _, [], hfit => simp [TS.fitsL] at hfit
  | f :: fs, g :: gs, hfit =>
    simp only [TS.fitsL, Bool.and_eq_true, beq_iff_eq] at hfit
    obtain ⟨⟨⟨h1, h2⟩, h3⟩, h4⟩ := hfit
    simp only [TS.szL] at hlen
    obtain ⟨x, hx⟩ := h g (by simp)
    rw [h1, h2] at hx
    obtain ⟨d1, e1, o1, s1, l1⟩ := gives f g.type h3 n _ x hx
    obtain ⟨d2, e2, o2, s2, l2⟩ := givesL fs gs (off + f.sz) h4 n cs (by omega) (fun g' hg' => h g' (by simp [hg']))
    refine ⟨d1 ++ d2, ?_, ?_, ?_, ?_⟩
    · rw [List.map_append, e1, e2, ← List.drop_drop, List.take_append_drop]
    · intro d hd
      rcases List.mem_append.1 hd with hd | hd
      · exact o1 d hd
      · exact o2 d hd
    · exact ⟨d1, d2, rfl, s1, s2⟩
    · simp [TS.szL, l1, l2]
end
theorem arg_st {r : Reach} {b0 : Nat} {t : TypeId} {fs : List TS} {gs : Array Field} {v : Value} {d : DataW H} {p : List MemPlace} (ht : P.underlying t = some (.struct gs)) (hfit : TS.fits P (.st fs) t = true)
    (hv : Value.okWide P w r b0 t v) (h : DataW.Trod enc P w base spare held t v d p) :
    ∃ ds : List D, v = .agg (ds.map D.val).toArray ∧ (∀ d, d ∈ ds → d.Ok (allOf w)) ∧ TS.ShL fs ds := by
  obtain ⟨cs, rfl, _⟩ := WideShapes.okWide_struct ht hv
  obtain ⟨fuel, hf⟩ := h
  obtain ⟨ds, h1, h2, h3, _⟩ := gives (.st fs) t hfit fuel _ _ hf
  refine ⟨ds, ?_, h2, by simpa [TS.Sh] using h3⟩
  rw [h1]; simp [Value.cells]



theorem arg_slc {r : Reach} {b0 : Nat} {t e' : TypeId} {e : TS} {v : Value} {d : DataW H} {p : List MemPlace} (ht : P.underlying t = some (.slice e')) (hfit : TS.fits P (.slc e) t = true)
    (hv : Value.okWide P w r b0 t v) (h : DataW.Trod enc P w base spare held t v d p) :
    ∃ d : D, v = d.val ∧ d.Ok (allOf w) ∧ d.IsSlc ∧ TS.Sh (.slc e) [d] := by
  obtain ⟨a, len, cap, rfl⟩ := WideShapes.okWide_slice ht hv
  obtain ⟨fuel, hf⟩ := h
  obtain ⟨ds, h1, h2, h3, h4⟩ := gives (.slc e) t hfit fuel _ _ hf
  simp only [TS.sz] at h4
  obtain ⟨x, rfl⟩ := List.length_eq_one_iff.1 h4
  simp only [List.map_cons, List.map_nil, Value.cells] at h1
  refine ⟨x, by simpa using h1.symm, h2 x (by simp), ?_, h3⟩
  simp only [TS.Sh] at h3
  obtain ⟨a, b, c, h3, _⟩ := h3
  exact ⟨a, b, c, by simpa using h3⟩
end
theorem law_calls {P : Program} {f : FuncId} {spec : List SV → SpecR} (h : Law P f spec) {w : World} {args : List SV} (hok : SV.OkL (allOf w) args)
    (hs : ∃ ps, spec args = .scalar ps (.lb true) ∧ ∀ p, p ∈ ps → p) :
    Calls P f (SV.denL env0 args).toArray w fun e w' => e = .returned (.bool true) ∧ Below w.heap.size w w' := by
  obtain ⟨ps, hs, hp⟩ := hs
  have h2 := h.2 (allOf w) env0 args hok
  rw [hs] at h2
  exact Calls.mono (h2 hp w (allOf_in w)) fun e w' ⟨u, H', he, ha, hu⟩ => ⟨by rw [he, hu]; simp [SV.den], ha.below⟩
end Sx
end
section
namespace Sx
structure Sec where
  b0 : Int
  b1 : Int
  b2 : Int
  b3 : Int
  b4 : Int
  b5 : Int
  b6 : Int
  b7 : Int
deriving DecidableEq
structure Wt where
  vol : Int
  start : Int
  data : List Sec
deriving DecidableEq
structure Ev where
  kind : Int
  write : Int
deriving DecidableEq
structure Hist where
  sizes : List Int
  writes : List Wt
  events : List Ev
deriving DecidableEq

def badSize (n : Int) : Bool := decide (n < 1) || decide (n > 4096)
def sizesErr (l : List Int) : Int := if l.length < 1 ∨ l.length > 8 then 6 else if l.any badSize = true then 2 else 0
def fitsErr (s : List Int) (w : Wt) : Int :=
  if w.vol < 0 ∨ w.vol ≥ s.length then 7 else if w.data.length = 0 then 1
  else if w.start < 0 ∨ w.start > s.getD w.vol.toNat 0 - w.data.length then 2 else 0
def firstErr (s : List Int) : List Wt → Int
  | [] => 0
  | w :: r => if fitsErr s w ≠ 0 then fitsErr s w else firstErr s r

theorem firstErr_cons (s : List Int) (w : Wt) (r : List Wt) : firstErr s (w :: r) = if fitsErr s w ≠ 0 then fitsErr s w else firstErr s r := rfl
theorem firstErr_append (s : List Int) (a b : List Wt) : firstErr s (a ++ b) = if firstErr s a ≠ 0 then firstErr s a else firstErr s b := by
  induction a with
  | nil => simp [firstErr]
  | cons x r ih =>
    rw [List.cons_append, firstErr_cons, firstErr_cons]
    by_cases h : fitsErr s x ≠ 0
    · rw [if_pos h, if_pos h, if_pos h]
    · rw [if_neg h, if_neg h]; exact ih
theorem firstErr_take {s : List Int} {l : List Wt} {i : Nat} (hi : i < l.length) : firstErr s (l.take (i + 1)) = if firstErr s (l.take i) ≠ 0 then firstErr s (l.take i) else fitsErr s l[i] := by
  rw [List.take_succ_eq_append_getElem hi, firstErr_append]
  congr 1
  simp only [firstErr]
  split
  · rfl
  · rename_i h; simp only [ne_eq, Decidable.not_not] at h; exact h.symm
theorem firstErr_of_take {s : List Int} {l : List Wt} {i : Nat} (h : firstErr s (l.take i) ≠ 0) : firstErr s l = firstErr s (l.take i) := by
  conv => lhs; rw [← List.take_append_drop i l]
  rw [firstErr_append, if_pos h]
structure Tl where
  issued : List Int
  acked : List Int
deriving DecidableEq
def evStep (n : Nat) (i : Int) (t : Tl) (e : Ev) : Int × Tl :=
  if e.kind = 0 then (if e.write ≠ t.issued.length ∨ e.write ≥ n then (3, t) else (0, ⟨t.issued ++ [i], t.acked ++ [-1]⟩))
  else if e.kind = 1 then (if e.write < 0 ∨ e.write ≥ t.issued.length then (7, t) else if t.acked.getD e.write.toNat 0 ≥ 0 then (8, t) else (0, ⟨t.issued, t.acked.set e.write.toNat i⟩))
  else (3, t)
def runEv (n : Nat) (l : List Ev) : Nat → Int × Tl
  | 0 => (0, ⟨[], []⟩)
  | i + 1 => if (runEv n l i).1 ≠ 0 then runEv n l i else match l[i]? with
    | some e => evStep n i (runEv n l i).2 e
    | none => runEv n l i
def zTl : Tl := ⟨[], []⟩
def checkH (h : Hist) : Int × Tl :=
  if sizesErr h.sizes ≠ 0 then (sizesErr h.sizes, zTl)
  else if h.writes.length > 4096 then (6, zTl)
  else if firstErr h.sizes h.writes ≠ 0 then (firstErr h.sizes h.writes, zTl)
  else if (runEv h.writes.length h.events h.events.length).1 ≠ 0 then ((runEv h.writes.length h.events h.events.length).1, zTl)
  else if (runEv h.writes.length h.events h.events.length).2.issued.length < h.writes.length then (3, zTl)
  else (0, (runEv h.writes.length h.events h.events.length).2)
def atEv : List Ev → Ev → Int
  | [], _ => -1
  | x :: r, e => if x = e then 0 else if atEv r e < 0 then -1 else atEv r e + 1
theorem atEv_nil (e : Ev) : atEv [] e = -1 := rfl
theorem atEv_cons (x : Ev) (r : List Ev) (e : Ev) : atEv (x :: r) e = if x = e then 0 else if atEv r e < 0 then -1 else atEv r e + 1 := rfl
theorem atEv_cases (l : List Ev) (e : Ev) : (atEv l e = -1 ∧ e ∉ l) ∨ (0 ≤ atEv l e ∧ atEv l e < l.length ∧ e ∈ l) := by
  induction l with
  | nil => exact .inl ⟨rfl, by simp⟩
  | cons x r ih =>
    rw [atEv_cons]
    by_cases h : x = e
    · right; subst h; rw [if_pos rfl]; simp only [List.length_cons]; exact ⟨Int.le_refl _, by omega, List.mem_cons_self⟩
    · rw [if_neg h]
      rcases ih with ⟨h1, h2⟩ | ⟨h1, h2, h3⟩
      · left
        rw [if_pos (by omega)]
        exact ⟨rfl, fun hm => (List.mem_cons.1 hm).elim (fun he => h he.symm) h2⟩
      · right
        rw [if_neg (by omega)]
        simp only [List.length_cons]
        exact ⟨by omega, by omega, List.mem_cons_of_mem _ h3⟩
theorem atEv_append (a b : List Ev) (e : Ev) : atEv (a ++ b) e = if atEv a e < 0 then (if atEv b e < 0 then -1 else atEv b e + a.length) else atEv a e := by
  induction a with
  | nil =>
    rw [List.nil_append, atEv_nil, if_pos (by decide)]
    have := atEv_cases b e
    split
    · omega
    · simp
  | cons x r ih =>
    rw [List.cons_append, atEv_cons, atEv_cons]
    by_cases h : x = e
    · rw [if_pos h, if_pos h, if_neg (by omega)]
    · rw [if_neg h, if_neg h, ih]
      have h1 := atEv_cases r e
      have h2 := atEv_cases b e
      simp only [List.length_cons]
      generalize atEv r e = p at h1 ⊢
      generalize atEv b e = q at h2 ⊢
      by_cases hp : p < 0
      · simp only [if_pos hp]
        by_cases hq : q < 0
        · simp only [if_pos hq]; simp
        · simp only [if_neg hq]
          rw [if_neg (by omega)]
          rw [if_pos (by decide)]
          omega
      · simp only [if_neg hp]
        rw [if_neg (by omega)]
theorem atEv_take {l : List Ev} {i : Nat} (hi : i < l.length) (e : Ev) : atEv (l.take (i + 1)) e = if atEv (l.take i) e < 0 then (if l[i] = e then (i : Int) else -1) else atEv (l.take i) e := by
  have h1 : atEv [l[i]] e = if l[i] = e then 0 else -1 := by
    rw [atEv_cons]
    by_cases h : l[i] = e
    · rw [if_pos h, if_pos h]
    · rw [if_neg h, if_neg h, if_pos (by rw [atEv_nil]; decide)]
  rw [List.take_succ_eq_append_getElem hi, atEv_append, h1]
  have hl : ((l.take i).length : Int) = i := by rw [List.length_take]; omega
  rw [hl]
  by_cases h : l[i] = e
  · simp [if_pos h]
  · simp [if_neg h]
structure TlOk (n : Nat) (l : List Ev) (t : Tl) : Prop where
  len : t.acked.length = t.issued.length
  le : t.issued.length ≤ n
  iss : ∀ w : Nat, (h : w < t.issued.length) → t.issued[w] = atEv l ⟨0, w⟩ ∧ 0 ≤ t.issued[w]
  not : ∀ w : Int, (w < 0 ∨ (t.issued.length : Int) ≤ w) → atEv l ⟨0, w⟩ = -1 ∧ atEv l ⟨1, w⟩ = -1
  ack : ∀ w : Nat, (h : w < t.acked.length) → t.acked[w] = atEv l ⟨1, w⟩
  kind : ∀ e, e ∈ l → (e.kind = 0 ∨ e.kind = 1) ∧ 0 ≤ e.write ∧ e.write < t.issued.length

theorem evStep_ok {n : Nat} {l : List Ev} {i : Nat} (hi : i < l.length) {t : Tl} (h : TlOk n (l.take i) t) (h0 : (evStep n i t l[i]).1 = 0) : TlOk n (l.take (i + 1)) (evStep n i t l[i]).2 := by
  have hat := atEv_take hi
  have hmem : ∀ e, e ∈ l.take (i + 1) → e ∈ l.take i ∨ e = l[i] := fun e he => by
    rw [List.take_succ_eq_append_getElem hi] at he
    rcases List.mem_append.1 he with he | he
    · exact .inl he
    · exact .inr (List.mem_singleton.1 he)
  have hneg : ∀ e, atEv (l.take i) e < 0 → atEv (l.take i) e = -1 := fun e he => by
    rcases atEv_cases (l.take i) e with ⟨h1, _⟩ | ⟨h1, _⟩
    · exact h1
    · omega
  generalize he : l[i] = e at *
  obtain ⟨k, w⟩ := e
  unfold evStep at h0 ⊢
  simp only at h0 ⊢
  by_cases hk : k = 0
  · subst hk
    rw [if_pos rfl] at h0 ⊢
    by_cases hc : w ≠ t.issued.length ∨ w ≥ n
    · rw [if_pos hc] at h0; exact absurd h0 (by simp)
    · rw [if_neg hc]
      have hw : w = t.issued.length := by omega
      subst hw
      have h1 := (h.not t.issued.length (.inr (Int.le_refl _)))
      have hsame : ∀ e, e ≠ ⟨0, t.issued.length⟩ → atEv (l.take (i + 1)) e = atEv (l.take i) e := fun e hne => by
        rw [hat]
        split
        · rename_i hl
          rw [if_neg (fun e' => hne e'.symm), hneg e hl]
        · rfl
      have hnew : atEv (l.take (i + 1)) ⟨0, t.issued.length⟩ = i := by rw [hat, h1.1, if_pos (by decide), if_pos rfl]
      refine ⟨by simp [h.len], by simp; omega, fun x hx => ?_, fun x hx => ?_, fun x hx => ?_, fun e hm => ?_⟩
      · simp only [List.length_append, List.length_singleton] at hx
        by_cases hxl : x < t.issued.length
        · rw [List.getElem_append_left hxl, hsame _ (by intro e'; cases e'; omega)]
          exact h.iss x hxl
        · have : x = t.issued.length := by omega
          subst this
          rw [List.getElem_append_right (Nat.le_refl _)]
          simp only [Nat.sub_self, List.getElem_cons_zero]
          exact ⟨hnew.symm, by omega⟩
      · simp only [List.length_append, List.length_singleton] at hx
        have := h.not x (by omega)
        rw [hsame _ (by intro e'; cases e'; omega), hsame _ (by intro e'; cases e')]
        exact this
      · simp only [List.length_append, List.length_singleton] at hx
        rw [hsame _ (by intro e'; cases e')]
        by_cases hxl : x < t.acked.length
        · rw [List.getElem_append_left hxl]; exact h.ack x hxl
        · have : x = t.acked.length := by omega
          subst this
          rw [List.getElem_append_right (Nat.le_refl _)]
          simp only [Nat.sub_self, List.getElem_cons_zero]
          rw [h.len]; exact h1.2.symm
      · simp only [List.length_append, List.length_singleton]
        rcases hmem e hm with hm | rfl
        · have := h.kind e hm; exact ⟨this.1, this.2.1, by omega⟩
        · exact ⟨.inl rfl, by simp only; omega, by simp only; omega⟩
  · rw [if_neg hk] at h0 ⊢
    by_cases hk1 : k = 1
    · subst hk1
      rw [if_pos rfl] at h0 ⊢
      by_cases hc : w < 0 ∨ w ≥ t.issued.length
      · rw [if_pos hc] at h0; exact absurd h0 (by simp)
      · rw [if_neg hc] at h0 ⊢
        obtain ⟨y, rfl⟩ := Int.eq_ofNat_of_zero_le (show 0 ≤ w by omega)
        have hy : y < t.acked.length := by have := h.len; omega
        by_cases ha : t.acked.getD (Int.toNat (y : Int)) 0 ≥ 0
        · rw [if_pos ha] at h0; exact absurd h0 (by simp)
        · rw [if_neg ha]
          have hy2 : t.acked.getD (Int.toNat (y : Int)) 0 = t.acked[y] := by simp [hy]
          rw [hy2, h.ack y hy] at ha
          have hm1 := hneg ⟨1, y⟩ (by omega)
          have hsame : ∀ e, e ≠ ⟨1, (y : Int)⟩ → atEv (l.take (i + 1)) e = atEv (l.take i) e := fun e hne => by
            rw [hat]
            split
            · rename_i hl
              rw [if_neg (fun e' => hne e'.symm), hneg e hl]
            · rfl
          have hnew : atEv (l.take (i + 1)) ⟨1, (y : Int)⟩ = i := by rw [hat, hm1, if_pos (by decide), if_pos rfl]
          refine ⟨by simp [h.len], h.le, fun x hx => ?_, fun x hx => ?_, fun x hx => ?_, fun e hm => ?_⟩
          · rw [hsame _ (by intro e'; cases e')]; exact h.iss x hx
          · have hx : x < 0 ∨ (t.issued.length : Int) ≤ x := hx
            have := h.not x hx
            rw [hsame _ (by intro e'; cases e'), hsame _ (by intro e'; cases e'; omega)]
            exact this
          · simp only [List.length_set] at hx
            simp only [Int.toNat_natCast, List.getElem_set]
            by_cases hxy : y = x
            · subst hxy; rw [if_pos rfl, hnew]
            · rw [if_neg hxy, hsame _ (by intro e'; cases e'; omega)]; exact h.ack x hx
          · rcases hmem e hm with hm | rfl
            · exact h.kind e hm
            · refine ⟨.inr rfl, by simp only; omega, ?_⟩; show (y : Int) < (t.issued.length : Int); omega
    · rw [if_neg hk1] at h0; exact absurd h0 (by simp)

theorem runEv_ok {n : Nat} {l : List Ev} : ∀ i : Nat, i ≤ l.length → (runEv n l i).1 = 0 → TlOk n (l.take i) (runEv n l i).2
  | 0, _, _ => by
    refine ⟨rfl, Nat.zero_le _, fun w h => absurd h (Nat.not_lt_zero _), fun w _ => ⟨rfl, rfl⟩, fun w h => absurd h (Nat.not_lt_zero _), fun e h => ?_⟩
    simp at h
  | i + 1, hi, h => by
    have hl : l[i]? = some l[i] := List.getElem?_eq_getElem (by omega)
    simp only [runEv, hl] at h ⊢
    split at h
    · rename_i hc; exact absurd h hc
    · rename_i hc
      rw [if_neg hc]
      have h0 : (runEv n l i).1 = 0 := by simpa using hc
      exact evStep_ok (by omega) (runEv_ok i (by omega) h0) h
end Sx
end
section
namespace Sx
theorem evStep_kind {n : Nat} {l : List Ev} {i : Nat} {t : Tl} (h : TlOk n (l.take i) t) (e : Ev) :
    (evStep n i t e).1 = if e.kind = 0 then (if e.write ≠ t.issued.length ∨ (t.issued.length : Int) ≥ n then 3 else 0)
      else if e.kind ≠ 1 then 3 else if atEv (l.take i) ⟨0, e.write⟩ < 0 then 7 else if atEv (l.take i) e ≥ 0 then 8 else 0 := by
  obtain ⟨k, w⟩ := e
  unfold evStep
  simp only
  by_cases hk : k = 0
  · rw [if_pos hk, if_pos hk]
    by_cases hc : w ≠ t.issued.length ∨ w ≥ n
    · rw [if_pos hc, if_pos (by omega)]
    · rw [if_neg hc, if_neg (by omega)]
  · rw [if_neg hk, if_neg hk]
    by_cases hk1 : k = 1
    · subst hk1
      rw [if_pos rfl, if_neg (show ¬((1 : Int) ≠ 1) from fun h => h rfl)]
      by_cases hc : w < 0 ∨ w ≥ t.issued.length
      · rw [if_pos hc, if_pos (by rw [(h.not w hc).1]; decide)]
      · rw [if_neg hc]
        obtain ⟨y, rfl⟩ := Int.eq_ofNat_of_zero_le (show 0 ≤ w by omega)
        have hy : y < t.issued.length := by omega
        have hy2 : y < t.acked.length := by have := h.len; omega
        have h1 := h.iss y hy
        rw [if_neg (show ¬(atEv (l.take i) ⟨0, (y : Int)⟩ < 0) from by rw [← h1.1]; omega)]
        have e2 : t.acked.getD (Int.toNat (y : Int)) 0 = atEv (l.take i) ⟨1, y⟩ := by rw [← h.ack y hy2]; simp [hy2]
        rw [e2]
        by_cases ha : atEv (l.take i) ⟨1, y⟩ ≥ 0
        · rw [if_pos ha, if_pos ha]
        · rw [if_neg ha, if_neg ha]
    · rw [if_neg hk1, if_pos hk1]
theorem evStep_len {n : Nat} {i : Int} {t : Tl} {e : Ev} (h0 : (evStep n i t e).1 = 0) : ((evStep n i t e).2.issued.length : Int) = t.issued.length + if e.kind = 0 then 1 else 0 := by
  unfold evStep at h0 ⊢
  split at h0
  · rename_i hk
    rw [if_pos hk, if_pos hk]
    split at h0
    · exact absurd h0 (by simp)
    · rename_i hc; rw [if_neg hc]; simp
  · rename_i hk
    rw [if_neg hk, if_neg hk]
    split at h0
    · rename_i hk1
      rw [if_pos hk1]
      split at h0
      · exact absurd h0 (by simp)
      · rename_i hc
        rw [if_neg hc]
        split at h0
        · exact absurd h0 (by simp)
        · rename_i hd; rw [if_neg hd]; simp
    · exact absurd h0 (by simp)
theorem checkH_ok {h : Hist} (hc : (checkH h).1 = 0) : TlOk h.writes.length h.events (checkH h).2 ∧ (checkH h).2.issued.length = h.writes.length ∧ sizesErr h.sizes = 0 ∧ h.writes.length ≤ 4096 ∧ firstErr h.sizes h.writes = 0 := by
  unfold checkH at hc ⊢
  split at hc
  · rename_i h1; exact absurd hc h1
  · rename_i h1
    rw [if_neg h1]
    split at hc
    · exact absurd hc (by simp)
    · rename_i h2
      rw [if_neg h2]
      split at hc
      · rename_i h3; exact absurd hc h3
      · rename_i h3
        rw [if_neg h3]
        split at hc
        · rename_i h4; exact absurd hc h4
        · rename_i h4
          rw [if_neg h4]
          split at hc
          · exact absurd hc (by simp)
          · rename_i h5
            rw [if_neg h5]
            have := runEv_ok (n := h.writes.length) (l := h.events) h.events.length (Nat.le_refl _) (by simpa using h4)
            rw [List.take_length] at this
            exact ⟨this, by have := this.le; simp only at h5 ⊢; omega, by simpa using h1, by omega, by simpa using h3⟩
def beforeT (t : Tl) (a b : Int) : Bool := decide (t.acked.getD a.toNat 0 ≥ 0) && decide (t.acked.getD a.toNat 0 < t.issued.getD b.toNat 0)
def beforeR (l : List Ev) (a b : Int) : Bool := decide (atEv l ⟨1, a⟩ ≥ 0) && decide (atEv l ⟨1, a⟩ < atEv l ⟨0, b⟩)
theorem before_same {n : Nat} {l : List Ev} {t : Tl} (h : TlOk n l t) {a b : Int} (ha : 0 ≤ a ∧ a < t.issued.length) (hb : 0 ≤ b ∧ b < t.issued.length) : beforeT t a b = beforeR l a b := by
  obtain ⟨x, rfl⟩ := Int.eq_ofNat_of_zero_le ha.1
  obtain ⟨y, rfl⟩ := Int.eq_ofNat_of_zero_le hb.1
  have hx : x < t.acked.length := by have := h.len; omega
  have hy : y < t.issued.length := by omega
  have e1 : t.acked.getD (Int.toNat (x : Int)) 0 = atEv l ⟨1, x⟩ := by rw [← h.ack x hx]; simp [hx]
  have e2 : t.issued.getD (Int.toNat (y : Int)) 0 = atEv l ⟨0, y⟩ := by rw [← (h.iss y hy).1]; simp [hy]
  unfold beforeT beforeR
  rw [e1, e2]
theorem before_out {n : Nat} {l : List Ev} {t : Tl} (h : TlOk n l t) {a b : Int} (hab : ¬((0 ≤ a ∧ a < t.issued.length) ∧ 0 ≤ b ∧ b < t.issued.length)) : beforeR l a b = false := by
  unfold beforeR
  by_cases ha : 0 ≤ a ∧ a < t.issued.length
  · have := (h.not b (by omega)).1
    rw [this]
    by_cases h1 : atEv l ⟨1, a⟩ ≥ 0
    · rw [decide_eq_false (p := atEv l ⟨1, a⟩ < -1) (by omega)]; simp
    · rw [decide_eq_false h1]; rfl
  · have := (h.not a (by omega)).2
    rw [this]; rfl
def beforeH (h : Hist) (a b : Int) : Bool := decide ((checkH h).1 = 0) && beforeR h.events a b
def isSet (l : List Int) (n : Nat) : Bool := (List.range l.length).all fun i => decide (0 ≤ l.getD i 0) && decide (l.getD i 0 < n) && (decide (i = 0) || decide (l.getD (i - 1) 0 < l.getD i 0))
def closedR (h : Hist) (set : List Int) : Bool := set.all fun b => (List.range h.writes.length).all fun (a : Nat) => !beforeR h.events a b || set.contains (a : Int)
def closedH (h : Hist) (set : List Int) : Bool := decide ((checkH h).1 = 0) && isSet set h.writes.length && closedR h set
def ackedH (h : Hist) (n : Int) : List Int := if (checkH h).1 ≠ 0 then [] else ((List.range h.writes.length).map fun (a : Nat) => (a : Int)).filter fun a => decide (0 ≤ atEv h.events ⟨1, a⟩) && decide (atEv h.events ⟨1, a⟩ < n)
theorem atEv_take_iff (l : List Ev) (e : Ev) : ∀ n : Nat, atEv (l.take n) e ≥ 0 ↔ 0 ≤ atEv l e ∧ atEv l e < n := by
  induction l with
  | nil => intro n; rw [List.take_nil, atEv_nil]; omega
  | cons x r ih =>
    intro n
    cases n with
    | zero =>
      rw [List.take_zero, atEv_nil]
      omega
    | succ n =>
      rw [List.take_succ_cons, atEv_cons, atEv_cons]
      by_cases hx : x = e
      · rw [if_pos hx, if_pos hx]; omega
      · rw [if_neg hx, if_neg hx]
        have := ih n
        have h1 := atEv_cases r e
        have h2 := atEv_cases (r.take n) e
        split <;> split <;> omega
end Sx
end
section
namespace Sx
open Go RowKit
noncomputable def execT (P : Program) (cs : Ctrs) (U : FuncId → Bool) (n : Nat) : Conf → Tree :=
  Nat.rec (motive := fun _ => Conf → Tree) (fun c => .leaf c) (fun _ ih c => stepC P cs U ih c) n

section
variable {P : Program} {C : Ctx} {cs : Ctrs} {R : Value → World → Prop}

theorem execT_sound (hcs : cs.Ok P) (U : FuncId → Bool) : ∀ (n : Nat) (c : Conf), (execT P cs U n c).holds P C R → Runs P C c R
  | 0, _, h => h
  | n + 1, c, h => step_sound (U := U) (ih := execT P cs U n) hcs (fun c h => execT_sound hcs U n c h) c h
theorem runs_ret {fn : FuncId} {aw : Option Tmp} {k : List Item} {tmps : List SV} {mem : Mem} {f : Func} {l : List SV} (hfn : P.funcs[fn]? = some f) (hres : resS P mem tmps f.results.toList = some l)
    (h : ∀ E H w, Good C.fin mem E H w → (one? l).Ok H → R ((one? l).den E) w) (hrd : C.x.rd = false := by rfl) : Runs P C ⟨⟨fn, none, aw, .code .ret :: k, tmps⟩, [], mem⟩ R := by
  intro E H w g ok
  obtain ⟨h1, h2⟩ := run_results (P := P) g.take ok.1 hres
  show Go1 P (kindOf C.x) fn (.code .ret :: k) ⟨(SV.denL E tmps).toArray, marksOf C.x.df⟩ w R
  rw [show kindOf C.x = none by simp [kindOf, hrd]]
  exact Go1.ret hfn rfl g.fix.nodup (fun D hD => (g.fix.fx D _ (g.fix.mark D hD).2).1) h1 (h E H _ g.take h2)
def OwnR (w : World) (H : HV) (e : TypeId) (mk : D → D) (u : Value) (w' : World) : Prop :=
  ∃ E1 H' k h, u = (SV.vec k).den E1 ∧ Good ⟨w, H⟩ [(k, .arr e (mk h))] E1 H' w'
abbrev OSpec := List SV → Option (List Prop × TypeId × (D → D))

def OLaw (P : Program) (f : FuncId) (spec : OSpec) : Prop :=
  Bodied P f = true ∧ ∀ (H : HV) (E : Env) (args : List SV), SV.OkL H args →
    match spec args with
    | some (ps, e, mk) => (∀ p, p ∈ ps → p) → ∀ w, InMem H w → Calls P f (SV.denL E args).toArray w fun r w' => ∃ u, r = .returned u ∧ OwnR w H e mk u w'
    | none => True

def oCtr (spec : OSpec) : Ctr := fun args key m =>
  match spec (closeL (pubsR (leavesL args) m) args) with
  | some (ps, e, mk) => .all ps fun hs => (.vec key, (key, .arr e (mk (hs 0))) :: pubsR (leavesL args) m)
  | none => .bad

theorem keysEq_len : ∀ {a b : Mem}, keysEq a b = true → a.length = b.length
  | [], [], _ => rfl
  | [], _ :: _, h => by simp [keysEq] at h
  | _ :: _, [], h => by simp [keysEq] at h
  | _ :: r, _ :: s, h => by
    simp only [keysEq, Bool.and_eq_true] at h
    simp only [List.length_cons, keysEq_len h.2]

theorem oCtr_ro {spec : OSpec} : CtrRO (oCtr spec) := by
  intro args key m h
  unfold oCtr
  cases hs : spec (closeL (pubsR (leavesL args) m) args) with
  | none => trivial
  | some x =>
    obtain ⟨ps, e, mk⟩ := x
    simp only
    intro hs hk
    have := keysEq_len hk
    simp [pubsR_ro h] at this

theorem ownsRow_mono {w : World} {a b : Nat} {e : TypeId} {sz : Nat} {v : Value} {n : Nat} {xs : List Value} (h : w.ownsRow a e sz v n xs) (hb : b ≤ a) : w.ownsRow b e sz v n xs := by
  obtain ⟨h1, h2⟩ := h
  refine ⟨h1, h2.imp id fun ⟨g, cap, cur, h3, h4, h5⟩ => ⟨g, cap, cur, h3, Nat.le_trans hb h4, h5⟩⟩

theorem oCtr_ok {f : FuncId} {spec : OSpec} (h : OLaw P f spec) : CtrOk P f (oCtr spec) := by
  refine ⟨bodied_spec h.1, fun C E H w args key m g hargs hk hk2 => ?_, oCtr_ro⟩
  obtain ⟨H1, hle, g1, nw⟩ := pubsR_spec (leavesL args) g
  have hpm := pubsR_mem (leavesL args) (m := m)
  obtain ⟨e1, e2⟩ := closeL_spec g1 args (SV.OkL.mono hle _ hargs)
  have hl := h.2 H1 E _ e2
  unfold CallRight oCtr
  cases hs : spec (closeL (pubsR (leavesL args) m) args) with
  | none => simp
  | some x =>
    obtain ⟨ps, e, mk⟩ := x
    simp only [hs] at hl ⊢
    intro hp
    have hc := hl hp w g1.cell
    rw [e1] at hc
    refine Calls.mono hc fun r w' ⟨u, hr, E1, H', k, hd, hu, g2⟩ => ?_
    have g3 := g1.call g2.below g2.ext g2.fresh g2.cell
    have o2 := g2.own k _ (List.mem_singleton.2 rfl)
    have ha := E.agree_setV key (E1.b k) (E1.v k)
    have hk' := has_pubsR (leavesL args) hk
    have hbE : (E.setV key (E1.b k) (E1.v k)).b key = E1.b k := by simp [Env.setV]
    have hvE : (E.setV key (E1.b k) (E1.v k)).v key = E1.v k := by simp [Env.setV]
    obtain ⟨hh, sz, rows, q1, q2, q3, q4, q5, q6⟩ := o2
    have hlow : OBlk.Lies (.arr e (mk hd)) → w.heap.size ≤ E1.b k := by
      intro hl
      rw [q1] at hl q3
      simp only [OBlk.Lies, D.hd] at hl
      cases hh with
      | none => exact absurd rfl hl
      | some ac =>
        obtain ⟨a, c⟩ := ac
        obtain ⟨_, h3⟩ := q3
        have hq6 := (q6 a c rfl).1
        rcases h3 with ⟨h3, _⟩ | ⟨g', cap, cur, h3, h4, _⟩
        · simp [D.val, hval] at h3
        · simp only [D.val, hval, Value.slice.injEq, Option.some.injEq] at h3
          have h5 : E1.b k = g' := by have := h3.1; rw [hq6] at this; exact congrArg Addr.block this
          rw [h5]; exact h4
    have g4 : Good C ((key, .arr e (mk hd)) :: pubsR (leavesL args) m) (E.setV key (E1.b k) (E1.v k)) H' w' := by
      refine g3.cons hk' ha (Below.refl _ _) ⟨hh, sz, rows, q1, by rw [hvE]; exact q2, ownsRow_mono q3 g.below.size, q4, q5, fun a c hac => ?_⟩ (fun hl j p hj hlp => ?_)
      · rw [hbE]; exact q6 a c hac
      · rw [hbE]
        have h1 := hlow hl
        have h2 := (g1.own j p hj).lt hlp
        omega
    refine ⟨fun _ => hd, E.setV key (E1.b k) (E1.v k), H', by rw [hr, hu]; simp [SV.den, hvE], ha, hle.trans g2.ext, g4, by simp [SV.Ok], ?_⟩
    refine ⟨g2.below.size, fun b hb _ => g2.below.block b hb, fun b x v hx => ?_, fun j o hj => ?_, fun j o hj hl => ?_, g2.below.os, g2.below.tape, g2.below.output⟩
    · rcases g2.fresh b x v hx with h1 | h1
      · exact (nw b x v h1).imp id .inr
      · exact .inr (.inl h1)
    · rcases List.mem_cons.1 hj with hj | hj
      · exact Or.inl (congrArg Prod.fst hj)
      · exact .inr (hpm j o hj).1
    · rcases List.mem_cons.1 hj with hj | hj
      · have e1 : j = key := congrArg Prod.fst hj
        have e2 : o = .arr e (mk hd) := congrArg Prod.snd hj
        subst e1; subst e2
        rw [hbE]; exact .inl (hlow hl)
      · refine .inr ⟨j, o, (hpm j o hj).2 hl, hl, ?_⟩
        exact (ha.1 j (Mem.has_key hk' _ hj).1).1
theorem calls_of {f : FuncId} {H : HV} {args : List SV} {w : World} {R : Value → World → Prop} (hb : Bodied P f = true) (hok : SV.OkL H args) (E : Env) (hc : InMem H w)
    (h : Runs P ⟨w, H⟩ (entry P f args) R) : Calls P f (SV.denL E args).toArray w fun e w' => ∃ v, e = .returned v ∧ R v w' := by
  obtain ⟨fn, hfn, hbs, _⟩ := bodied_spec hb
  cases hbody : fn.body with
  | none => rw [hbody] at hbs; cases hbs
  | some b =>
    simp only [entry, hfn, hbody] at h
    have hr := h E H w (good_start hc E) ⟨okL_append hok (by rw [SV.OkL_iff]; intro x hx; rw [List.eq_of_mem_replicate hx]; simp [SV.Ok]), by simp⟩
    rw [stkRun_eq] at hr
    simp only [List.map_nil, restOf, SFrm.dn, dsOf, roOf, CFrm.run] at hr
    have e3 : (SV.denL E args).toArray ++ Array.replicate (fn.ntmps - (SV.denL E args).toArray.size) undef = (SV.denL E (args ++ List.replicate (fn.ntmps - args.length) .undef)).toArray := by
      simp [SV.denL_eq, SV.den, ← List.toArray_replicate]
    exact calls_of_go1 (P := P) (f := f) (args := (SV.denL E args).toArray) (w := w) hfn hbody (by rw [e3]; exact hr)
def spClone (α : Type) [Codec α] (e : TypeId) : OSpec := fun args => match args with
  | [x] => match rdD.read x with
    | some d => some ([d.Is α ∧ d.len ≤ 1048576], e, fun h => .slc h.hd (Codec.sz α) d.rows)
    | none => none
  | _ => none

theorem olaw_clone {f : FuncId} {α : Type} [Codec α] {e : TypeId} (hb : Bodied P f = true)
    (h : ∀ (H : HV) (w : World) (d : D), d.Ok H → d.Is α → d.len ≤ 1048576 → Runs P ⟨w, H⟩ (entry P f [.dat d]) (OwnR w H e fun h => .slc h.hd (Codec.sz α) d.rows)) : OLaw P f (spClone α e) := by
  refine ⟨hb, fun H E args hargs => ?_⟩
  unfold spClone
  split
  · rename_i heq
    split at heq
    · rename_i x
      split at heq
      · rename_i d hd
        cases heq
        intro hp w hc
        obtain ⟨h1, h2⟩ := rdD.right H E x d hd hargs.1
        obtain ⟨p1, p2⟩ := hp _ (List.mem_singleton.2 rfl)
        have := calls_of hb (args := [.dat d]) ⟨h2, trivial⟩ E hc (h H w d h2.1 p1 p2)
        have e1 : SV.denL E [x] = SV.denL E [.dat d] := by simp only [SV.denL]; rw [h1]; rfl
        rw [e1]
        exact this
      · cases heq
    · cases heq
  · trivial
theorem own_nil {w : World} {H : HV} {e : TypeId} {sz : Nat} {mk : D → D} {h : D} (hm : mk h = .slc none sz []) : (Tree.ret .nils).holds P ⟨w, H⟩ (OwnR w H e mk) := by
  refine ⟨rfl, fun E H' w' g _ => ?_⟩
  refine ⟨E.setV 0 0 (none, 0), H', 0, h, by simp [SV.den, Env.setV, hval], ?_⟩
  refine g.cons (by rfl) (E.agree_setV 0 0 (none, 0)) (Below.refl _ _) ?_ (fun _ j p hj _ => by cases hj)
  rw [hm]
  exact ⟨none, sz, [], rfl, by simp [Env.setV], World.ownsRow_nil w' _ e sz, by simp, by simp, by simp⟩
theorem own_ret {w : World} {H : HV} {e : TypeId} {mk : D → D} {fn : FuncId} {aw : Option Tmp} {k : List Item} {tmps : List SV} {mem : Mem} {f : Func} {j : Nat} {d h : D} (hfn : P.funcs[fn]? = some f)
    (hres : resS P mem tmps f.results.toList = some [.vec j]) (hmem : mem = [(j, .arr e d)]) (hd : d = mk h) : (Tree.leaf ⟨⟨fn, none, aw, .code .ret :: k, tmps⟩, [], mem⟩).holds P ⟨w, H⟩ (OwnR w H e mk) := by
  refine runs_ret hfn hres fun E H' w' g _ => ?_
  subst hmem
  subst hd
  exact ⟨E, H', j, h, rfl, g⟩
end
end Sx
end
section
open Go
namespace Sx
instance : Codec Sec where
  sz := 8
  ok r := ∃ a b c d e f g h, r = [.int .u8 a, .int .u8 b, .int .u8 c, .int .u8 d, .int .u8 e, .int .u8 f, .int .u8 g, .int .u8 h]
  dec r := match r with | [.int _ a, .int _ b, .int _ c, .int _ d, .int _ e, .int _ f, .int _ g, .int _ h] => ⟨a, b, c, d, e, f, g, h⟩ | _ => ⟨0, 0, 0, 0, 0, 0, 0, 0⟩
  enc s := [.int .u8 s.b0, .int .u8 s.b1, .int .u8 s.b2, .int .u8 s.b3, .int .u8 s.b4, .int .u8 s.b5, .int .u8 s.b6, .int .u8 s.b7]
  ok_enc s := ⟨_, _, _, _, _, _, _, _, rfl⟩
  dec_enc _ := rfl
  len r := by rintro ⟨_, _, _, _, _, _, _, _, rfl⟩; rfl
def encD {α : Type} [Codec α] (l : List α) : D := .slc none (Codec.sz α) (l.map Codec.enc)
theorem encD_is {α : Type} [Codec α] (l : List α) : (encD l).Is α := ⟨_, _, _, rfl, .inr rfl, fun r hr => by obtain ⟨x, _, rfl⟩ := List.mem_map.1 hr; exact Codec.ok_enc x⟩
theorem encD_to {α : Type} [Codec α] (l : List α) : (encD l).to α = l := by
  simp only [encD, D.to, D.rows, List.map_map]
  conv => rhs; rw [← List.map_id l]
  exact List.map_congr_left fun x _ => Codec.dec_enc x
instance : Codec Wt where
  sz := 3
  ok r := ∃ v s d, r = [.int .i64 v, .int .i64 s, d] ∧ d.Is Sec
  dec r := match r with | [.int _ v, .int _ s, d] => ⟨v, s, d.to Sec⟩ | _ => ⟨0, 0, []⟩
  enc w := [.int .i64 w.vol, .int .i64 w.start, encD w.data]
  ok_enc w := ⟨_, _, _, rfl, encD_is _⟩
  dec_enc w := by simp only [encD_to]
  len r := by rintro ⟨_, _, _, rfl, _⟩; rfl
instance : Codec Ev where
  sz := 2
  ok r := ∃ k w, r = [.int .i64 k, .int .i64 w]
  dec r := match r with | [.int _ k, .int _ w] => ⟨k, w⟩ | _ => ⟨0, 0⟩
  enc e := [.int .i64 e.kind, .int .i64 e.write]
  ok_enc e := ⟨_, _, rfl⟩
  dec_enc _ := rfl
  len r := by rintro ⟨_, _, rfl⟩; rfl
structure Vol where
  l : List Sec
deriving DecidableEq
instance : Codec Vol where
  sz := 1
  ok r := ∃ d, r = [d] ∧ d.Is Sec
  dec r := match r with | [d] => ⟨d.to Sec⟩ | _ => ⟨[]⟩
  enc v := [encD v.l]
  ok_enc v := ⟨_, rfl, encD_is _⟩
  dec_enc w := by simp only [encD_to]
  len r := by rintro ⟨_, rfl, _⟩; rfl
structure HiD where
  s : D
  w : D
  e : D
def HiD.hist (x : HiD) : Hist := ⟨x.s.to Int, x.w.to Wt, x.e.to Ev⟩
def HiD.Right (x : HiD) : Prop := x.s.Is Int ∧ x.w.Is Wt ∧ x.e.Is Ev ∧ x.s.len ≤ 1048576 ∧ x.w.len ≤ 1048576 ∧ x.e.len ≤ 1048576 ∧ ∀ w, w ∈ x.w.to Wt → w.data.length ≤ 1048576
def rdHi : Rd1 HiD where
  read x := match x with
    | .agg [s, w, e] => match rdD.read s, rdD.read w, rdD.read e with
      | some s, some w, some e => some ⟨s, w, e⟩
      | _, _, _ => none
    | _ => none
  canon h := .agg [.dat h.s, .dat h.w, .dat h.e]
  right H E x b h hok := by
    split at h
    · split at h
      · rename_i h1 h2 h3
        cases h
        obtain ⟨a1, a2, a3, _⟩ := hok
        obtain ⟨i1, i2⟩ := rdD.right H E _ _ h1 a1
        obtain ⟨j1, j2⟩ := rdD.right H E _ _ h2 a2
        obtain ⟨k1, k2⟩ := rdD.right H E _ _ h3 a3
        refine ⟨?_, i2, j2, k2, trivial⟩
        simp only [SV.den, SV.denL, i1, j1, k1]
        rfl
      · cases h
    · cases h
structure WtD where
  v : Int
  s : Int
  d : D
def WtD.wt (x : WtD) : Wt := ⟨x.v, x.s, x.d.to Sec⟩
def rdWt : Rd1 WtD where
  read x := match x with
    | .agg [.int .i64 v, .int .i64 s, d] => match rdD.read d with
      | some d => some ⟨v, s, d⟩
      | _ => none
    | _ => none
  canon h := .agg [.int .i64 h.v, .int .i64 h.s, .dat h.d]
  right H E x b h hok := by
    split at h
    · split at h
      · rename_i h1
        cases h
        obtain ⟨_, _, a3, _⟩ := hok
        obtain ⟨i1, i2⟩ := rdD.right H E _ _ h1 a3
        refine ⟨?_, trivial, trivial, i2, trivial⟩
        simp only [SV.den, SV.denL, i1]
        rfl
      · cases h
    · cases h
structure CkD where
  s : D
  w : D
  e : D
  i : D
  a : D
def rdCk : Rd1 CkD where
  read x := match x with
    | .agg [s, w, e, i, a] => match rdD.read s, rdD.read w, rdD.read e, rdD.read i, rdD.read a with
      | some s, some w, some e, some i, some a => some ⟨s, w, e, i, a⟩
      | _, _, _, _, _ => none
    | _ => none
  canon h := .agg [.dat h.s, .dat h.w, .dat h.e, .dat h.i, .dat h.a]
  right H E x b h hok := by
    split at h
    · split at h
      · rename_i h1 h2 h3 h4 h5
        cases h
        obtain ⟨a1, a2, a3, a4, a5, _⟩ := hok
        obtain ⟨i1, i2⟩ := rdD.right H E _ _ h1 a1
        obtain ⟨j1, j2⟩ := rdD.right H E _ _ h2 a2
        obtain ⟨k1, k2⟩ := rdD.right H E _ _ h3 a3
        obtain ⟨l1, l2⟩ := rdD.right H E _ _ h4 a4
        obtain ⟨m1, m2⟩ := rdD.right H E _ _ h5 a5
        refine ⟨?_, i2, j2, k2, l2, m2, trivial⟩
        simp only [SV.den, SV.denL, i1, j1, k1, l1, m1]
        rfl
      · cases h
    · cases h
end Sx
end
section
open Go
namespace Sx
abbrev tsJ : TS := .int .i64
abbrev tsSec : TS := .arr 8 (.int .u8)
abbrev tsWt : List TS := [tsJ, tsJ, .slc tsSec]
abbrev tsEv : List TS := [tsJ, tsJ]
abbrev tsHi : List TS := [.slc tsJ, .slc (.st tsWt), .slc (.st tsEv)]
abbrev tsSt : List TS := [.slc tsJ, .slc (.st tsWt), .slc (.st tsEv)]

theorem shJ {ds : List D} (h : TS.Sh tsJ ds) : ∃ n, ds = [.int .i64 n] := by
  simp only [TS.Sh] at h
  obtain ⟨n, h, _⟩ := h
  exact ⟨n, h⟩
theorem shSlc {e : TS} {ds : List D} (h : TS.Sh (.slc e) ds) : ∃ d, ds = [d] ∧ TS.Sh (.slc e) [d] := by
  have h' := h
  simp only [TS.Sh] at h
  obtain ⟨a, s, rows, rfl, _⟩ := h
  exact ⟨_, rfl, h'⟩
theorem shSl {α : Type} [Codec α] {e : TS} (hs : e.sz = Codec.sz α) (ho : ∀ r, e.Sh r → Codec.ok α r) {d : D} (h : TS.Sh (.slc e) [d]) : d.Is α ∧ d.IsSlc ∧ d.len ≤ maxLen := by
  simp only [TS.Sh] at h
  obtain ⟨a, s, rows, h1, h2, h3, h4⟩ := h
  simp only [List.cons.injEq, and_true] at h1
  subst h1
  exact ⟨⟨a, s, rows, rfl, h2.imp id fun h => by rw [h]; exact hs, fun r hr => ho r (h4 r hr)⟩, ⟨_, _, _, rfl⟩, h3⟩
theorem shSec {ds : List D} (h : TS.Sh tsSec ds) : Codec.ok Sec ds := by
  simp only [TS.Sh] at h
  obtain ⟨l, rfl, h1, h2⟩ := h
  match l, h1 with
  | [r0, r1, r2, r3, r4, r5, r6, r7], _ =>
    obtain ⟨a, rfl, _⟩ := h2 r0 (by simp)
    obtain ⟨b, rfl, _⟩ := h2 r1 (by simp)
    obtain ⟨c, rfl, _⟩ := h2 r2 (by simp)
    obtain ⟨d, rfl, _⟩ := h2 r3 (by simp)
    obtain ⟨e, rfl, _⟩ := h2 r4 (by simp)
    obtain ⟨f, rfl, _⟩ := h2 r5 (by simp)
    obtain ⟨g, rfl, _⟩ := h2 r6 (by simp)
    obtain ⟨i, rfl, _⟩ := h2 r7 (by simp)
    exact ⟨_, _, _, _, _, _, _, _, rfl⟩
theorem shInts {d : D} (h : TS.Sh (.slc tsJ) [d]) : d.Is Int ∧ d.IsSlc ∧ d.len ≤ maxLen := shSl rfl (fun r hr => by obtain ⟨n, rfl⟩ := shJ hr; exact ⟨n, rfl⟩) h
theorem shSecs {d : D} (h : TS.Sh (.slc tsSec) [d]) : d.Is Sec ∧ d.IsSlc ∧ d.len ≤ maxLen := shSl rfl (fun r hr => shSec hr) h
theorem sh_wt {ds : List D} (h : TS.ShL tsWt ds) : ∃ v s d, ds = [.int .i64 v, .int .i64 s, d] ∧ d.Is Sec ∧ d.IsSlc := by
  simp only [tsWt, TS.ShL] at h
  obtain ⟨_, _, rfl, h1, _, _, rfl, h2, _, _, rfl, h3, rfl⟩ := h
  obtain ⟨v, rfl⟩ := shJ h1
  obtain ⟨s, rfl⟩ := shJ h2
  obtain ⟨d, rfl, h3⟩ := shSlc h3
  exact ⟨v, s, d, rfl, (shSecs h3).1, (shSecs h3).2.1⟩
theorem sh_ev {ds : List D} (h : TS.ShL tsEv ds) : ∃ v s, ds = [.int .i64 v, .int .i64 s] := by
  simp only [tsEv, TS.ShL] at h
  obtain ⟨_, _, rfl, h1, _, _, rfl, h2, rfl⟩ := h
  obtain ⟨v, rfl⟩ := shJ h1
  obtain ⟨s, rfl⟩ := shJ h2
  exact ⟨v, s, rfl⟩
theorem shWts {d : D} (h : TS.Sh (.slc (.st tsWt)) [d]) : d.Is Wt ∧ d.IsSlc ∧ d.len ≤ maxLen :=
  shSl rfl (fun r hr => by
    obtain ⟨v, s, d, rfl, h, _⟩ := sh_wt (by simpa only [TS.Sh] using hr)
    exact ⟨_, _, _, rfl, h⟩) h
theorem shEvs {d : D} (h : TS.Sh (.slc (.st tsEv)) [d]) : d.Is Ev ∧ d.IsSlc ∧ d.len ≤ maxLen :=
  shSl rfl (fun r hr => by
    obtain ⟨v, s, rfl⟩ := sh_ev (by simpa only [TS.Sh] using hr)
    exact ⟨_, _, rfl⟩) h
theorem sh_hi {ds : List D} (h : TS.ShL tsHi ds) : ∃ a b c, ds = [a, b, c] ∧ a.Is Int ∧ a.IsSlc ∧ b.Is Wt ∧ b.IsSlc ∧ c.Is Ev ∧ c.IsSlc := by
  simp only [tsHi, TS.ShL] at h
  obtain ⟨_, _, rfl, h1, _, _, rfl, h2, _, _, rfl, h3, rfl⟩ := h
  obtain ⟨a, rfl, h1⟩ := shSlc h1
  obtain ⟨b, rfl, h2⟩ := shSlc h2
  obtain ⟨c, rfl, h3⟩ := shSlc h3
  exact ⟨a, b, c, rfl, (shInts h1).1, (shInts h1).2.1, (shWts h2).1, (shWts h2).2.1, (shEvs h3).1, (shEvs h3).2.1⟩
end Sx
end
section
namespace Sx
open Go
def atDst (c : Conf) : Option (FuncId × Nat) :=
  match c.top.ri with
  | some _ => none
  | none => match c.top.todo with
    | .code (.region _ ops _) :: _ => match ops[0]? with
      | some o => match o.dst with
        | some d => some (c.top.fn, d)
        | none => none
      | none => none
    | _ => none

def restsAt (l : List (FuncId × Nat)) (c : Conf) : Bool :=
  match atDst c with
  | some (f, d) => l.any fun x => x.1 == f && x.2 == d
  | none => false
def liveW (P : Program) (g : SFrm) : List Nat :=
  let out := (liveI (retN P g.fn) g.todo).1
  let live := match g.ri with
    | some (ops, l) => liveOps ops (l.filterMap fun i => ops[i]?) out
    | none => out
  match g.await with
  | some t => live.filter (· != t)
  | none => live
def fgtR (P : Program) (c : Conf) : Conf :=
  match c.rest with
  | [] => c
  | g :: r =>
    let n := 1000 * r.length
    let live := liveW P g
    if keptOk n live 0 g.tmps && c.mem.all (fun e => !e.2.jk n) && r.all (fun f => !SV.jkL n f.tmps) && !SV.jkL n c.top.tmps then
      { c with rest := { g with tmps := maskT n live 0 g.tmps } :: r }
    else c

theorem fgtR_sound {P : Program} {C : Ctx} {R : Value → World → Prop} {c : Conf} (h : Runs P C (fgtR P c) R) : Runs P C c R := by
  obtain ⟨top, rest, mem⟩ := c
  unfold fgtR at h
  simp only at h
  cases rest with
  | nil => exact h
  | cons g r =>
    simp only at h
    split at h
    · rename_i hc
      simp only [Bool.and_eq_true, Bool.not_eq_true'] at hc
      obtain ⟨⟨⟨h1, h2⟩, h3⟩, h4⟩ := hc
      intro E H w gd ok
      let n := 1000 * r.length
      let E' : Env := ⟨E.b, E.v, fun i => if i < n then E.j i else ((SV.denL E g.tmps)[i - n]?).getD Go.undef⟩
      have hs : Same n E E' := ⟨rfl, rfl, fun i hi => by simp [E', hi]⟩
      have hg := gd.same' hs (fun x hx => by have := List.all_eq_true.1 h2 x hx; simpa using this)
      have hr := h E' H w hg ⟨ok.1, fun f hf => by
        rcases List.mem_cons.1 hf with rfl | hf
        · exact maskT_ok _ _ _ (ok.2 g (by simp))
        · exact ok.2 f (by simp [hf])⟩
      have e1 : SV.denL E' (maskT n (liveW P g) 0 g.tmps) = SV.denL E g.tmps := by
        refine maskT_den hs _ _ 0 h1 (fun i v hv => ?_)
        simp only [E', Nat.zero_add]
        rw [if_neg (by omega), show n + i - n = i from by omega, SV.denL_eq, List.getElem?_map, hv]
        rfl
      have e2 : r.map (SFrm.den E') = r.map (SFrm.den E) := by
        apply List.map_congr_left
        intro f hf
        have := List.all_eq_true.1 h3 f hf
        simp only [Bool.not_eq_true'] at this
        simp [SFrm.den, denL_same hs _ this]
      have e3 : SFrm.den E' top = top.den E := by simp [SFrm.den, denL_same hs _ h4]
      have e4 : SFrm.den E' { g with tmps := maskT n (liveW P g) 0 g.tmps } = g.den E := by
        simp only [SFrm.den]; rw [e1]
      simp only [List.map_cons] at hr ⊢
      rw [e2, e3] at hr
      rw [show SFrm.den E' { g with tmps := maskT (1000 * r.length) (liveW P g) 0 g.tmps } = g.den E from e4] at hr
      exact hr
    · exact h
noncomputable def restC (P : Program) (c : Conf) : Tree := headC P (fgtR P c) leafR
noncomputable def execS (P : Program) (cs : Ctrs) (U : FuncId → Bool) (S : List (FuncId × Nat)) (n : Nat) : Conf → Tree :=
  Nat.rec (motive := fun _ => Conf → Tree) (fun _ => .stuck) (fun _ ih c => match restsAt S c with
    | true => restC P c
    | false => stepC P cs U ih c) n
noncomputable def goS (P : Program) (cs : Ctrs) (U : FuncId → Bool) (S : List (FuncId × Nat)) (n : Nat) (c : Conf) : Tree := stepC P cs U (execS P cs U S n) c

section
variable {P : Program} {C : Ctx} {R : Value → World → Prop} {cs : Ctrs}
theorem execS_sound (hcs : cs.Ok P) (U : FuncId → Bool) (S : List (FuncId × Nat)) : ∀ (n : Nat) (c : Conf), (execS P cs U S n c).holds P C R → Runs P C c R
  | 0, _, h => h.elim
  | n + 1, c, h => by
    have e : execS P cs U S (n + 1) c = match restsAt S c with
      | true => restC P c
      | false => stepC P cs U (execS P cs U S n) c := rfl
    rw [e] at h
    cases hr : restsAt S c with
    | true => rw [hr] at h; exact fgtR_sound (headR_sound h)
    | false => rw [hr] at h; exact step_sound (U := U) hcs (fun c h => execS_sound hcs U S n c h) c h
theorem goS_sound (hcs : cs.Ok P) (U : FuncId → Bool) (S : List (FuncId × Nat)) (n : Nat) (c : Conf) (h : (goS P cs U S n c).holds P C R) : Runs P C c R :=
  step_sound (U := U) hcs (fun c h => execS_sound hcs U S n c h) c h
end

/-! A cell that is known to be true. -/
def lbIn (b off : Nat) (c : Conf) : Option Conf :=
  match c.mem.get b with
  | some (.cells t cs) => match cs[off]? with
    | some (.bool true) => some ⟨c.top, c.rest, c.mem.set b (.cells t (cs.set off (.lb true)))⟩
    | _ => none
  | _ => none


end Sx
end
section
namespace Sx
open Go RowKit


theorem named_key {m : Mem} {k : Nat} {o : OBlk} (h : (k, o) ∈ m) : k ∈ m.named := List.mem_flatMap.2 ⟨_, h, List.mem_cons_self⟩
theorem named_in {m : Mem} {k j : Nat} {o : OBlk} (h : (k, o) ∈ m) (hj : j ∈ o.keys) : j ∈ m.named := List.mem_flatMap.2 ⟨_, h, List.mem_cons_of_mem _ hj⟩
def shM (m : Mem) : Mem := m.map fun e => (e.1 + 500, e.2.ren (· + 500))
def RetM (w : World) (H : HV) (Φ : SV → Mem → Prop) : Value → World → Prop :=
  fun u w' => ∃ v m E1 H', Φ v m ∧ u = v.den E1 ∧ Good ⟨w, H⟩ m E1 H' w' ∧ v.Ok H' ∧ v.jk 0 = false ∧ (∀ x, x ∈ m → x.2.jk 0 = false)

theorem OOk.ctx {C C' : Ctx} {E : Env} {H : HV} {w : World} {k : Nat} {o : OBlk} (h : OOk C E H w k o) (hs : C'.w0.heap.size ≤ C.w0.heap.size) : OOk C' E H w k o := by
  cases o with
  | cells t cs => exact ⟨Nat.le_trans hs h.1, h.2⟩
  | pub d => exact h
  | map es => exact ⟨Nat.le_trans hs h.1, h.2⟩
  | arr e d =>
    obtain ⟨hd, sz, rows, h1, h2, h3, h4⟩ := h
    exact ⟨hd, sz, rows, h1, h2, ownsRow_mono h3 hs, h4⟩

theorem OBlk.lies_ren (ρ : Nat → Nat) (o : OBlk) : (o.ren ρ).Lies ↔ o.Lies := by cases o <;> rfl

section
variable {P : Program} {C : Ctx} {R : Value → World → Prop}
theorem retM {w : World} {H : HV} {Φ : SV → Mem → Prop} {fn : FuncId} {aw : Option Tmp} {k : List Item} {tmps : List SV} {mem : Mem} {f : Func} {l : List SV} (m' : Mem) (hfn : P.funcs[fn]? = some f) (hres : resS P mem tmps f.results.toList = some l)
    (hsub : m'.Sublist mem) (hj : (one? l).jk 0 = false) (hjm : m'.all (fun x => !x.2.jk 0) = true) (h : Φ (one? l) m') : (Tree.leaf ⟨⟨fn, none, aw, .code .ret :: k, tmps⟩, [], mem⟩).holds P ⟨w, H⟩ (RetM w H Φ) := by
  refine runs_ret hfn hres fun E H' w' g hv => ⟨_, m', E, H', h, rfl, g.sub hsub, hv, hj, fun x hx => ?_⟩
  have := List.all_eq_true.1 hjm x hx
  simpa using this
def atRet (c : Conf) : Bool :=
  match c.rest with
  | [] => match c.top.ri with
    | none => match c.top.todo with
      | .code .ret :: _ => true
      | _ => false
    | some _ => false
  | _ :: _ => false
noncomputable def execR (P : Program) (cs : Ctrs) (n : Nat) : Conf → Tree :=
  Nat.rec (motive := fun _ => Conf → Tree) (fun _ => .stuck) (fun _ ih c => match atRet c with
    | true => leafR c
    | false => stepC P cs (fun _ => false) ih c) n
end
end Sx
end
section
namespace Sx
open Go RowKit
inductive MidK where
  | copy
  | append
  | store
  | build
deriving DecidableEq
def opMid (o : Op) (k : MidK) : Bool :=
  match k with
  | .copy => match o with | .call cl => (match cl.callee with | .builtin .copy => true | _ => false) | _ => false
  | .append => match o with | .call cl => (match cl.callee with | .builtin .append => true | _ => false) | _ => false
  | .store => match o with | .store .. => true | _ => false
  | .build => match o with | .buildSlice .. => true | _ => false
def restsMid (M : List (FuncId × MidK)) (c : Conf) : Bool :=
  match c.top.ri with
  | some (ops, i :: _) => match ops[i]? with
    | some o => M.any fun x => x.1 == c.top.fn && opMid o.op x.2
    | none => false
  | _ => false
noncomputable def execM (P : Program) (cs : Ctrs) (S : List (FuncId × Nat)) (M : List (FuncId × MidK)) (n : Nat) : Conf → Tree :=
  Nat.rec (motive := fun _ => Conf → Tree) (fun _ => .stuck) (fun _ ih c => match restsMid M c with
    | true => leafR c
    | false => match restsAt S c with
      | true => restC P c
      | false => stepC P cs (fun _ => false) ih c) n
noncomputable def goM (P : Program) (cs : Ctrs) (S : List (FuncId × Nat)) (M : List (FuncId × MidK)) (n : Nat) (c : Conf) : Tree := stepC P cs (fun _ => false) (execM P cs S M n) c
section
variable {P : Program} {C : Ctx} {R : Value → World → Prop} {cs : Ctrs}
theorem execM_sound (hcs : cs.Ok P) (S : List (FuncId × Nat)) (M : List (FuncId × MidK)) : ∀ (n : Nat) (c : Conf), (execM P cs S M n c).holds P C R → Runs P C c R
  | 0, _, h => h.elim
  | n + 1, c, h => by
    have e : execM P cs S M (n + 1) c = match restsMid M c with
      | true => leafR c
      | false => match restsAt S c with
        | true => restC P c
        | false => stepC P cs (fun _ => false) (execM P cs S M n) c := rfl
    rw [e] at h
    cases hr : restsMid M c with
    | true => rw [hr, leafR_eq] at h; exact h
    | false =>
      rw [hr] at h
      simp only at h
      cases hs : restsAt S c with
      | true => rw [hs] at h; exact fgtR_sound (headR_sound h)
      | false => rw [hs] at h; exact step_sound (U := fun _ => false) hcs (fun c h => execM_sound hcs S M n c h) c h
theorem goM_sound (hcs : cs.Ok P) (S : List (FuncId × Nat)) (M : List (FuncId × MidK)) (n : Nat) (c : Conf) (h : (goM P cs S M n c).holds P C R) : Runs P C c R :=
  step_sound (U := fun _ => false) hcs (fun c h => execM_sound hcs S M n c h) c h
end
end Sx
end
section
namespace Sx
open Go RowKit
section
variable {P : Program}
def At (P : Program) (c : Conf) (H : HV) (w : World) (R : Value → World → Prop) : Prop :=
  ∀ E, c.Ok H → InMem H w → StkRun P ctxPlain (c.top.den E) (c.rest.map (SFrm.den E)) w R
theorem at_of_runs {c : Conf} {H : HV} {w : World} {R : Value → World → Prop} (hm : c.mem = []) (h : Runs P ⟨w, H⟩ c R) : At P c H w R :=
  fun E ok hin => h E H w (by rw [hm]; exact good_start hin E) ok
theorem After.trans {w w1 w2 : World} {H H1 H2 : HV} (a : After w H w1 H1) (b : After w1 H1 w2 H2) : After w H w2 H2 :=
  ⟨a.below.trans (b.below.mono a.below.size), a.le.trans b.le, fun x o v h => by
    rcases b.fresh x o v h with h | h
    · exact a.fresh x o v h
    · exact .inr (Nat.le_trans a.below.size h), b.cell⟩
def callAt (ops : Array Oper) (i : Nat) : Option (Builtin × List Operand × List TypeId × Option Tmp) :=
  match ops[i]? with
  | some ⟨dst, .call ⟨.builtin b, args, tys⟩, _, _, _, none⟩ => some (b, args.toList, tys.toList, dst)
  | _ => none
def storeAt (ops : Array Oper) (i : Nat) : Option (TypeId × Operand × Operand × Option Tmp) :=
  match ops[i]? with
  | some ⟨dst, .store t a x, _, _, _, none⟩ => some (t, a, x, dst)
  | _ => none
theorem wanted_none {o : Oper} (h : o.guard = none) (y : Nat → Option Bool) : Region.wanted o y = true := by unfold Region.wanted; rw [h]
theorem stk_builtin {f : FuncId} {ops : Array Oper} {i : Nat} {l : List Nat} {aw dst : Option Tmp} {k : List Item} {tmps : List SV} {rest : List SFrm} {b : Builtin} {args : List Operand} {tys : List TypeId} {E E' : Env} {w w' : World} {R : Value → World → Prop} {u : Value}
    (ho : callAt ops i = some (b, args, tys, dst))
    (hr : ∀ ty, (builtin b tys.toArray ty #[] (args.map fun x => (evS tmps x).den E).toArray).run P w = .ok (.value u) w')
    (hcst : ∀ (ty : TypeId) (c : Array Bool) (xs : Array Value), builtin b tys.toArray ty c xs = builtin b tys.toArray ty #[] xs)
    (h : StkRun P ctxPlain ⟨f, some (ops, l), aw, k, (⟨(SV.denL E tmps).toArray, []⟩ : Act).put dst u, none⟩ (rest.map (SFrm.den E')) w' R) :
    StkRun P ctxPlain (SFrm.den E ⟨f, some (ops, i :: l), aw, k, tmps⟩) (rest.map (SFrm.den E')) w R := by
  unfold callAt at ho
  split at ho
  · rename_i dst' b' args' tys' ty pos after hops
    cases ho
    have hro : RunsTo P ⟨(SV.denL E tmps).toArray, []⟩ ⟨dst, .call ⟨.builtin b, args', tys'⟩, ty, pos, after, none⟩ w u w' := by
      left
      have := hr ty
      simp only [Array.toArray_toList] at this
      have ev : args'.toList.map (fun x => (evS tmps x).den E) = (args'.map (Act.eval ⟨(SV.denL E tmps).toArray, []⟩)).toList := by
        rw [Array.toList_map]
        exact List.map_congr_left fun x _ => (den_evS E tmps [] x).symm
      rw [ev, Array.toArray_toList] at this
      simp only [execOp, resolve, invoke, Sem.run_bind, Sem.run_pure, Result.andThen_ok]
      rw [← Array.toArray_toList (xs := tys'), hcst, Array.toArray_toList]
      exact this
    cases rest with
    | nil =>
      refine frm_op (a := ⟨(SV.denL E tmps).toArray, []⟩) (ro := none) hops (wanted_none rfl _) hro ?_
      cases dst <;> exact h
    | cons g r => exact frm_op hops (wanted_none rfl _) hro h
  · cases ho
theorem stk_store {f : FuncId} {ops : Array Oper} {i : Nat} {l : List Nat} {aw dst : Option Tmp} {k : List Item} {tmps : List SV} {rest : List SFrm} {t : TypeId} {x y : Operand} {E E' : Env} {w w' : World} {R : Value → World → Prop}
    (ho : storeAt ops i = some (t, x, y, dst))
    (hr : (Instr.storeAt t ((evS tmps x).den E) ((evS tmps y).den E)).run P w = .ok () w')
    (h : StkRun P ctxPlain ⟨f, some (ops, l), aw, k, (⟨(SV.denL E tmps).toArray, []⟩ : Act).put dst Go.undef, none⟩ (rest.map (SFrm.den E')) w' R) :
    StkRun P ctxPlain (SFrm.den E ⟨f, some (ops, i :: l), aw, k, tmps⟩) (rest.map (SFrm.den E')) w R := by
  unfold storeAt at ho
  split at ho
  · rename_i dst' t' x' y' ty pos after hops
    cases ho
    have hro : RunsTo P ⟨(SV.denL E tmps).toArray, []⟩ ⟨dst, .store t x y, ty, pos, after, none⟩ w Go.undef w' := by
      right
      refine ⟨?_, rfl⟩
      have e1 := den_evS E tmps [] x
      have e2 := den_evS E tmps [] y
      simp only [execOp, e1, e2, Sem.run_bind, hr, Result.andThen_ok, Sem.run_pure]
    cases rest with
    | nil =>
      refine frm_op (a := ⟨(SV.denL E tmps).toArray, []⟩) (ro := none) hops (wanted_none rfl _) hro ?_
      cases dst <;> exact h
    | cons g r => exact frm_op hops (wanted_none rfl _) hro h
  · cases ho
theorem run_copy_sz (w : World) (dT sT ty elem : TypeId) (g o dLen dCap : Nat) (a : Addr) (sLen sCap s : Nat) (cur : Array Value) (t : TypeId) (cs : List Value)
    (hu : P.underlying dT = some (.slice elem)) (hs : (P.info? elem).map (·.size) = some s)
    (hg : w.heap[g]? = some (.cells cur t (0, 0))) (hn : cs.length = Nat.min sLen dLen * s)
    (hsrc : ∀ j v, cs[j]? = some v → w.cell? (a.add j) = some v) (hfit : o + cs.length ≤ cur.size) (h1 : ∀ v ∈ cs, v.oneCell' = true) :
    (Builtin.copy_ #[dT, sT] ty #[.slice (some ⟨g, o, none⟩) dLen dCap, .slice (some a) sLen sCap]).run P w =
      .ok (goInt (Nat.min sLen dLen)) (w.setRow g (cur.toList.take o ++ cs ++ cur.toList.drop (o + cs.length)).toArray) := by
  have hl := run_loadCells_list (P := P) w a cs hsrc
  have hst := run_storeCells_at P g o t cs 0 cur w hg (by simpa using hfit) h1
  cases hq : P.info? elem with
  | none => simp [hq] at hs
  | some i =>
    have hi : i.size = s := by simpa [hq] using hs
    simp [Builtin.copy_, run_underlying hu, Builtin.lenOf, Builtin.firstCells, Go.sizeOf, typeInfo, hq, hi, ← hn, hl, hst]
end
theorem prefix_of {F L : List Value} (h : ∀ (x : Nat) (v : Value), F[x]? = some v → L[x]? = some v) : L = F ++ L.drop F.length := by
  apply List.ext_getElem?
  intro x
  by_cases hx : x < F.length
  · rw [List.getElem?_append_left hx, List.getElem?_eq_getElem hx]
    exact h x _ (List.getElem?_eq_getElem hx)
  · rw [List.getElem?_append_right (by omega), List.getElem?_drop]
    congr 1; omega
def blk (o : D) (v : Nat) : Nat := (o.cell v 0).addr.block
structure ImgW (n : Nat) (H : HV) (w : World) (o : D) : Prop where
  is : o.Is Vol
  sz : o.sz = 1
  ok : o.Ok H
  ne : ∀ v, v < o.len → (o.cell v 0).rows ≠ []
  hd : ∀ v, v < o.len → ∃ c, (o.cell v 0).hd = some (⟨blk o v, 0, none⟩, c)
  low : ∀ v, v < o.len → n ≤ blk o v
  dis : ∀ v v', v < o.len → v' < o.len → blk o v = blk o v' → v = v'
  out : ∀ v, v < o.len → o.addr.block ≠ blk o v
  live : ∀ v, v < o.len → ∃ cur t, w.heap[blk o v]? = some (.cells cur t (0, 0))
theorem vol_row {o : D} (h : o.Is Vol) {v : Nat} (hv : v < o.len) : o.rows[v]? = some [o.cell v 0] ∧ (o.cell v 0).Is Sec ∧ (o.to Vol)[v]? = some ⟨(o.cell v 0).to Sec⟩ := by
  have hv' : v < (o.to Vol).length := by rw [← D.Is.length (α := Vol)]; exact hv
  obtain ⟨r, h1, ⟨d, rfl, hd⟩, h3⟩ := h.row hv'
  have e : o.cell v 0 = d := by simp [D.cell, D.cellAt, h1]
  rw [e]
  exact ⟨h1, hd, by rw [List.getElem?_eq_getElem hv', h3]; rfl⟩
def D.putSec (o : D) (v s : Nat) (rs : List (List D)) : D := .slc o.hd 1 (o.rows.set v [.slc (o.cell v 0).hd 8 ((o.cell v 0).rows.take s ++ rs ++ (o.cell v 0).rows.drop (s + rs.length))])
section
variable {n : Nat} {H : HV} {w : World} {o : D} (h : ImgW n H w o) {v s : Nat} {rs : List (List D)} (hv : v < o.len) (hrs : ∀ r, r ∈ rs → Codec.ok Sec r) (hs : s + rs.length ≤ (o.cell v 0).len)
include h hv hrs hs
theorem put_cell {v' : Nat} (hv' : v' < o.len) : (o.putSec v s rs).cell v' 0 = if v' = v then .slc (o.cell v 0).hd 8 ((o.cell v 0).rows.take s ++ rs ++ (o.cell v 0).rows.drop (s + rs.length)) else o.cell v' 0 := by
  have hl : v' < o.rows.length := hv'
  have e0 : ∀ (a : Hd) (z : Nat) (rows : List (List D)), (D.slc a z rows).cell v' 0 = ((rows[v']?).bind (·[0]?)).getD (.slc none 0 []) := fun _ _ _ => rfl
  unfold D.putSec
  rw [e0]
  by_cases e : v' = v
  · subst e
    rw [if_pos rfl, List.getElem?_set_self hl]; rfl
  · rw [if_neg e, List.getElem?_set_ne (Ne.symm e)]; rfl
theorem put_blk {v' : Nat} (hv' : v' < o.len) : blk (o.putSec v s rs) v' = blk o v' := by
  unfold blk
  rw [put_cell h hv hrs hs hv']
  split
  · rename_i e; subst e; rfl
  · rfl
theorem put_len : (o.putSec v s rs).len = o.len := by simp [D.putSec, D.len, D.rows]
theorem put_rows_ok : ∀ r, r ∈ (o.cell v 0).rows.take s ++ rs ++ (o.cell v 0).rows.drop (s + rs.length) → Codec.ok Sec r := by
  have hi := (rows_of (vol_row h.is hv).2.1).1
  intro r hr
  rcases List.mem_append.1 hr with hr | hr
  · rcases List.mem_append.1 hr with hr | hr
    · exact hi r (List.mem_of_mem_take hr)
    · exact hrs r hr
  · exact hi r (List.mem_of_mem_drop hr)
theorem put_rows_len : ((o.cell v 0).rows.take s ++ rs ++ (o.cell v 0).rows.drop (s + rs.length)).length = (o.cell v 0).rows.length := by
  have : s + rs.length ≤ (o.cell v 0).rows.length := hs
  simp only [List.length_append, List.length_take, List.length_drop]; omega
theorem put_to : (o.putSec v s rs).to Vol = (o.to Vol).set v ⟨((o.cell v 0).to Sec).take s ++ rs.map Codec.dec ++ ((o.cell v 0).to Sec).drop (s + rs.length)⟩ := by
  unfold D.putSec
  simp only [D.to, D.rows, List.map_set]
  congr 1
  show (⟨(D.slc (o.cell v 0).hd 8 _).to Sec⟩ : Vol) = _
  simp only [D.to, D.rows, List.map_append, List.map_take, List.map_drop]
theorem put_val : (o.putSec v s rs).val = o.val := by
  obtain ⟨a, b, c, rfl, _⟩ := h.is
  simp [D.putSec, D.val, D.hd, D.rows]
theorem put_is : (o.putSec v s rs).Is Vol := by
  refine is_rows rfl fun r hr => ?_
  rcases List.mem_or_eq_of_mem_set hr with hr | rfl
  · exact (rows_of h.is).1 r hr
  · exact ⟨_, rfl, is_rows rfl (put_rows_ok h hv hrs hs)⟩
theorem sec_plain {r : List D} (hr : Codec.ok Sec r) : r.length = 8 ∧ ∀ x, x ∈ r → ∀ H, x.Ok H := by
  obtain ⟨a, b, c, d, e, f, g, i, rfl⟩ := hr
  refine ⟨rfl, fun x hx H => ?_⟩
  simp only [List.mem_cons, List.not_mem_nil, or_false] at hx
  rcases hx with rfl | rfl | rfl | rfl | rfl | rfl | rfl | rfl <;> exact .int _ _
theorem ImgW.put (hin : InMem H w) {w' : World} {cur : Array Value} {t : TypeId} (hg : w.heap[blk o v]? = some (.cells cur t (0, 0)))
    (hw : w' = w.setRow (blk o v) (cur.toList.take (s * 8) ++ flat rs ++ cur.toList.drop (s * 8 + (flat rs).length)).toArray) :
    ∃ H', InMem H' w' ∧ ImgW n H' w' (o.putSec v s rs) ∧ (∀ H0 : HV, HLe H0 H → (∀ x, H0 (blk o v) x = none) → HLe H0 H') ∧ (∀ b x u, H' b x = some u → H b x = some u ∨ b = blk o v) ∧ s * 8 + (flat rs).length ≤ cur.size ∧ (∀ b, b ≠ blk o v → w'.heap[b]? = w.heap[b]?) := by
  obtain ⟨hrow, hsec, _⟩ := vol_row h.is hv
  obtain ⟨c, hhd⟩ := h.hd v hv
  have hne := h.ne v hv
  have hi := rows_of hsec
  have hl8 : ∀ r, r ∈ (o.cell v 0).rows → r.length = 8 := fun r hr => (sec_plain h hv hrs hs (hi.1 r hr)).1
  have hr8 : ∀ r, r ∈ rs → r.length = 8 := fun r hr => (sec_plain h hv hrs hs (hrs r hr)).1
  have hnl := put_rows_len h hv hrs hs
  have hno := put_rows_ok h hv hrs hs
  generalize hrows' : (o.cell v 0).rows.take s ++ rs ++ (o.cell v 0).rows.drop (s + rs.length) = rows' at hnl hno
  have hr' : ∀ r, r ∈ rows' → r.length = 8 := fun r hr => (sec_plain h hv hrs hs (hno r hr)).1
  -- the inner slice lies in memory
  have hiok : (o.cell v 0).Ok H := by
    have hok := h.ok
    cases hok with
    | slc a c sz rows hsp hc hlen hcell hk =>
      have hm : rows[v]? = some [(D.slc (some (a, c)) sz rows).cell v 0] := hrow
      exact hk _ (List.mem_of_getElem? hm) _ (by simp)
    | nil sz => simp [D.len, D.rows] at hv
    | int _ _ => obtain ⟨_, _, _, e, _⟩ := h.is; cases e
    | bool _ => obtain ⟨_, _, _, e, _⟩ := h.is; cases e
    | str _ => obtain ⟨_, _, _, e, _⟩ := h.is; cases e
  have hcells : ∀ i j r x, (o.cell v 0).rows[i]? = some r → r[j]? = some x → H (blk o v) (i * 8 + j) = some x.val := by
    intro i j r x h1 h2
    have hz : (o.cell v 0).sz = 8 := hsec.size (by
      rw [← D.Is.length (α := Sec)]
      have := (List.getElem?_eq_some_iff.1 h1).1
      exact (Nat.lt_of_le_of_lt (Nat.zero_le _) this : 0 < (o.cell v 0).rows.length))
    revert hhd hz h1
    generalize o.cell v 0 = q at hiok
    intro hhd h1 hz
    cases hiok with
    | slc a c sz rows hsp hc hlen hcell hk =>
      simp only [D.hd, Option.some.injEq, Prod.mk.injEq] at hhd
      obtain ⟨rfl, _⟩ := hhd
      simp only [D.sz] at hz
      subst hz
      have := hcell i j r x h1 h2
      simpa using this
    | nil sz => simp [D.hd] at hhd
    | int _ _ => simp [D.hd] at hhd
    | bool _ => simp [D.hd] at hhd
    | str _ => simp [D.hd] at hhd
  have hpre : ∀ (x : Nat) (u : Value), (flat (o.cell v 0).rows)[x]? = some u → cur.toList[x]? = some u := by
    intro x u hx
    have hlen := flat_len hl8
    have hxl : x < (o.cell v 0).rows.length * 8 := by rw [← hlen]; exact (List.getElem?_eq_some_iff.1 hx).1
    have hi1 : x / 8 < (o.cell v 0).rows.length := by omega
    have hr1 : (o.cell v 0).rows[x / 8]? = some (o.cell v 0).rows[x / 8] := List.getElem?_eq_getElem hi1
    have hrl := hl8 _ (List.getElem_mem hi1)
    have hj1 : x % 8 < ((o.cell v 0).rows[x / 8]).length := by rw [hrl]; exact Nat.mod_lt _ (by decide)
    have hr2 : ((o.cell v 0).rows[x / 8])[x % 8]? = some ((o.cell v 0).rows[x / 8])[x % 8] := List.getElem?_eq_getElem hj1
    have e1 := flat_get hl8 _ _ _ _ hr1 hr2
    have e2 := hcells _ _ _ _ hr1 hr2
    have ex : x / 8 * 8 + x % 8 = x := by omega
    rw [ex] at e1 e2
    rw [hx] at e1
    cases e1
    have e3 := hin _ _ _ e2
    simp only [World.cell?, hg, Option.isSome_none, Bool.false_eq_true, if_false] at e3
    simpa using e3
  have hL := prefix_of hpre
  have hFl : (flat (o.cell v 0).rows).length = (o.cell v 0).rows.length * 8 := flat_len hl8
  have hMl : (flat rs).length = rs.length * 8 := flat_len hr8
  have hsr : s + rs.length ≤ (o.cell v 0).rows.length := hs
  have hfit : s * 8 + (flat rs).length ≤ (flat (o.cell v 0).rows).length := by rw [hFl, hMl, ← Nat.add_mul]; exact Nat.mul_le_mul_right _ hsr
  have hcsz : (flat (o.cell v 0).rows).length ≤ cur.size := by
    have := congrArg List.length hL
    simp only [List.length_append, Array.length_toList, List.length_drop] at this
    omega
  have hF' : flat rows' = (flat (o.cell v 0).rows).take (s * 8) ++ flat rs ++ (flat (o.cell v 0).rows).drop (s * 8 + (flat rs).length) := by
    rw [← hrows', flat_append, flat_append]
    have tk : ∀ k, k ≤ (o.cell v 0).rows.length → flat ((o.cell v 0).rows.take k) = (flat (o.cell v 0).rows).take (k * 8) ∧ flat ((o.cell v 0).rows.drop k) = (flat (o.cell v 0).rows).drop (k * 8) := fun k hk => by
      have e := flat_append ((o.cell v 0).rows.take k) ((o.cell v 0).rows.drop k)
      rw [List.take_append_drop] at e
      have e2 : (flat ((o.cell v 0).rows.take k)).length = k * 8 := by
        rw [flat_len (sz := 8) fun r hr => hl8 r (List.mem_of_mem_take hr), List.length_take, Nat.min_eq_left hk]
      rw [e]
      exact ⟨by rw [← e2, List.take_left], by rw [← e2, List.drop_left]⟩
    rw [(tk s (by omega)).1, (tk (s + rs.length) hsr).2, hMl, Nat.add_mul]
  have hL' : cur.toList.take (s * 8) ++ flat rs ++ cur.toList.drop (s * 8 + (flat rs).length) = flat rows' ++ cur.toList.drop (flat (o.cell v 0).rows).length := by
    rw [hF']
    have e1 : cur.toList.take (s * 8) = (flat (o.cell v 0).rows).take (s * 8) := by
      rw [hL, List.take_append_of_le_length (by omega)]
    have e2 : cur.toList.drop (s * 8 + (flat rs).length) = (flat (o.cell v 0).rows).drop (s * 8 + (flat rs).length) ++ cur.toList.drop (flat (o.cell v 0).rows).length := by
      conv => lhs; rw [hL]
      rw [List.drop_append_of_le_length hfit]
    rw [e1, e2, List.append_assoc, List.append_assoc, List.append_assoc]
  rw [hL'] at hw
  have hoth : ∀ b, b ≠ blk o v → w'.heap[b]? = w.heap[b]? := fun b hb => by rw [hw]; exact setRow_other w _ _ _ hb
  have hnew : w'.heap[blk o v]? = some (.cells (flat rows' ++ cur.toList.drop (flat (o.cell v 0).rows).length).toArray t (0, 0)) := by
    rw [hw]; exact setRow_heap w _ cur _ t _ hg
  refine ⟨H.row (blk o v) (flat rows'), ?_, ?_, ?_, ?_, by omega, hoth⟩
  · intro b x u hb
    unfold HV.row at hb
    split at hb
    · rename_i e
      subst e
      simp only [World.cell?, hnew, Option.isSome_none, Bool.false_eq_true, if_false]
      have := (List.getElem?_eq_some_iff.1 hb).1
      simp only [List.getElem?_toArray]
      rw [List.getElem?_append_left this]; exact hb
    · rename_i e
      have := hin b x u hb
      simpa [World.cell?, hoth b e] using this
  · -- the image
    have hrowne : rows' ≠ [] := fun e => hne (List.length_eq_zero_iff.1 (by rw [← hnl, e]; rfl))
    have pc := @put_cell n H w o h v s rs hv hrs hs
    have pb := @put_blk n H w o h v s rs hv hrs hs
    have pl := put_len h hv hrs hs
    refine ⟨put_is h hv hrs hs, rfl, ?_, fun v' hv' => ?_, fun v' hv' => ?_, fun v' hv' => ?_, fun v1 v2 h1 h2 e => ?_, fun v' hv' => ?_, fun v' hv' => ?_⟩
    · -- in memory
      have key : ∀ v', (hv' : v' < o.len) → ((o.putSec v s rs).cell v' 0).Ok (H.row (blk o v) (flat rows')) := by
        intro v' hv'
        rw [pc hv']
        by_cases e : v' = v
        · rw [if_pos e, hhd, hrows']
          refine .slc _ _ _ _ (fun _ => rfl) ?_ hr' (fun i j r x h1 h2 => ?_) (fun r hr x hx => (sec_plain h hv hrs hs (hno r hr)).2 x hx _)
          · rw [hnl]
            revert hhd
            generalize o.cell v 0 = q at hiok
            intro hhd
            cases hiok with
            | slc a c' sz rows hsp hc hlen hcell hk => simp only [D.hd, Option.some.injEq, Prod.mk.injEq] at hhd; rw [← hhd.2]; exact hc
            | nil sz => simp [D.hd] at hhd
            | int _ _ => simp [D.hd] at hhd
            | bool _ => simp [D.hd] at hhd
            | str _ => simp [D.hd] at hhd
          · simp only [HV.row, if_true, Nat.zero_add]
            exact flat_get hr' i j r x h1 h2
        · rw [if_neg e]
          obtain ⟨hrow', hsec', _⟩ := vol_row h.is hv'
          obtain ⟨c', hhd'⟩ := h.hd v' hv'
          have hbne : blk o v' ≠ blk o v := fun e' => e (h.dis v' v hv' hv e')
          have hok' : (o.cell v' 0).Ok H := by
            have hok := h.ok
            cases hok with
            | slc a c sz rows hsp hc hlen hcell hk =>
              have hm : rows[v']? = some [(D.slc (some (a, c)) sz rows).cell v' 0] := hrow'
              exact hk _ (List.mem_of_getElem? hm) _ (by simp)
            | nil sz => simp [D.len, D.rows] at hv'
            | int _ _ => obtain ⟨_, _, _, e, _⟩ := h.is; cases e
            | bool _ => obtain ⟨_, _, _, e, _⟩ := h.is; cases e
            | str _ => obtain ⟨_, _, _, e, _⟩ := h.is; cases e
          have hsr' := (rows_of hsec').1
          revert hhd' hsr'
          generalize o.cell v' 0 = q at hok'
          intro hhd' hsr'
          cases hok' with
          | slc a c2 sz rows hsp hc hlen hcell hk =>
            simp only [D.hd, Option.some.injEq, Prod.mk.injEq] at hhd'
            obtain ⟨rfl, rfl⟩ := hhd'
            refine .slc _ _ _ _ hsp hc hlen (fun i j r x h1 h2 => ?_) (fun r hr x hx => (sec_plain h hv hrs hs (hsr' r hr)).2 x hx _)
            have := hcell i j r x h1 h2
            simp only [HV.row]
            rw [if_neg hbne]; exact this
          | nil sz => simp [D.hd] at hhd'
          | int _ _ => simp [D.hd] at hhd'
          | bool _ => simp [D.hd] at hhd'
          | str _ => simp [D.hd] at hhd'
      have hok := h.ok
      have hout := h.out v hv
      have hsz := h.sz
      have hlen' : (o.putSec v s rs).rows.length = o.rows.length := pl
      have hrl' : ∀ r, r ∈ (o.putSec v s rs).rows → ∃ v', v' < o.len ∧ r = [(o.putSec v s rs).cell v' 0] := fun r hr => by
        obtain ⟨i, hi', rfl⟩ := List.getElem_of_mem hr
        have hi2 : i < o.len := by rw [hlen'] at hi'; exact hi'
        have := (vol_row (put_is h hv hrs hs) (v := i) (by rw [pl]; exact hi2)).1
        rw [List.getElem?_eq_getElem hi'] at this
        exact ⟨i, hi2, Option.some.inj this⟩
      have hvals : ∀ i, i < o.len → ((o.putSec v s rs).cell i 0).val = (o.cell i 0).val := fun i hi' => by
        rw [pc hi']
        split
        · rename_i e; subst e
          obtain ⟨a, b, cc, e', _⟩ := hsec
          rw [hrows']
          rw [e'] at hnl ⊢
          simp only [D.val, D.hd, D.rows] at hnl ⊢
          rw [hnl]
        · rfl
      have hput : o.putSec v s rs = .slc o.hd 1 (o.putSec v s rs).rows := rfl
      rw [hput]
      have hc1 : ∀ i, i < o.len → o.rows[i]? = some [o.cell i 0] := fun i hi' => (vol_row h.is hi').1
      have hc2 : ∀ i, i < o.len → (o.putSec v s rs).rows[i]? = some [(o.putSec v s rs).cell i 0] := fun i hi' => (vol_row (put_is h hv hrs hs) (by rw [pl]; exact hi')).1
      generalize (o.putSec v s rs).rows = R at hlen' hrl' hc2
      generalize hcell' : (fun i => (o.putSec v s rs).cell i 0) = cf at *
      have cfe : ∀ i, (o.putSec v s rs).cell i 0 = cf i := fun i => congrFun hcell' i
      simp only [cfe] at hrl' hvals hc2 key
      clear cfe hcell' pc pb hput
      cases hok with
      | slc a c' sz rows hsp hc hlen hcell hk =>
        simp only [D.sz] at hsz
        subst hsz
        simp only [D.hd]
        refine .slc _ _ _ _ (fun _ => hsp (fun e => by rw [e] at hv; simp [D.len, D.rows] at hv)) (by rw [hlen']; exact hc) (fun r hr => by obtain ⟨v', _, rfl⟩ := hrl' r hr; rfl) (fun i j r x h1 h2 => ?_) (fun r hr x hx => ?_)
        · have hi' : i < R.length := (List.getElem?_eq_some_iff.1 h1).1
          have hi2 : i < rows.length := by rw [hlen'] at hi'; exact hi'
          have e1 := hc2 i hi2
          rw [h1] at e1
          cases e1
          have hj : j = 0 := by
            have := (List.getElem?_eq_some_iff.1 h2).1
            simp at this; exact this
          subst hj
          simp only [List.getElem?_cons_zero, Option.some.injEq] at h2
          subst h2
          have e2 := hcell i 0 _ _ (hc1 i hi2) rfl
          have e3 := hvals i hi2
          rw [e3]
          simp only [HV.row]
          rw [if_neg (show ¬a.block = _ from hout)]; exact e2
        · obtain ⟨v', hv', rfl⟩ := hrl' r hr
          rw [List.mem_singleton.1 hx]
          exact key v' hv'
      | nil sz => simp [D.len, D.rows] at hv
      | int _ _ => obtain ⟨_, _, _, e, _⟩ := h.is; cases e
      | bool _ => obtain ⟨_, _, _, e, _⟩ := h.is; cases e
      | str _ => obtain ⟨_, _, _, e, _⟩ := h.is; cases e
    · rw [pl] at hv'
      rw [pc hv']
      split
      · rw [hrows']; exact hrowne
      · exact h.ne v' hv'
    · rw [pl] at hv'
      rw [pb hv', pc hv']
      split
      · rename_i e; subst e; exact ⟨c, hhd⟩
      · exact h.hd v' hv'
    · rw [pl] at hv'; rw [pb hv']; exact h.low v' hv'
    · rw [pl] at h1 h2; rw [pb h1, pb h2] at e; exact h.dis v1 v2 h1 h2 e
    · rw [pl] at hv'; rw [pb hv']; exact h.out v' hv'
    · rw [pl] at hv'; rw [pb hv']
      by_cases e : blk o v' = blk o v
      · rw [e]; exact ⟨_, _, hnew⟩
      · rw [hoth _ e]; exact h.live v' hv'
  · intro H0 hle hn b x u hb
    unfold HV.row
    split
    · rename_i e; subst e; rw [hn] at hb; cases hb
    · exact hle b x u hb
  · intro b x u hb
    unfold HV.row at hb
    split at hb
    · rename_i e; exact .inr e
    · exact .inl hb
end
theorem ImgW.mono {n : Nat} {H H' : HV} {w w' : World} {o : D} (h : ImgW n H w o) (a : After w H w' H') : ImgW n H' w' o :=
  ⟨h.is, h.sz, h.ok.mono a.le, h.ne, h.hd, h.low, h.dis, h.out, fun v hv => by
    obtain ⟨cur, t, hg⟩ := h.live v hv
    exact ⟨cur, t, by rw [a.below.block _ (Array.getElem?_eq_some_iff.1 hg).1]; exact hg⟩⟩
/-! A frame's slots, from this very world on. -/
def envJ (E : Env) (T : Array Value) : Env := ⟨E.b, E.v, fun i => T.getD i Go.undef⟩
theorem slotS_cases (l : List (Nat × SV)) (t : Nat) (d : SV) : slotS l t d = d ∨ ∃ p, p ∈ l ∧ p.1 = t ∧ slotS l t d = p.2 := by
  induction l with
  | nil => exact .inl rfl
  | cons p r ih =>
    obtain ⟨u, v⟩ := p
    unfold slotS
    by_cases h : u = t
    · subst h; right; exact ⟨(u, v), List.mem_cons_self, rfl, by simp⟩
    · have hb : (u == t) = false := by simpa using h
      rw [hb]
      simp only [Bool.false_eq_true, if_false]
      rcases ih with h | ⟨p, h1, h2, h3⟩
      · exact .inl h
      · exact .inr ⟨p, List.mem_cons_of_mem _ h1, h2, h3⟩
theorem den_mkJ {E : Env} {T : Array Value} {sl : List (Nat × SV)} (hs : ∀ p, p ∈ sl → p.2.den (envJ E T) = T.getD p.1 Go.undef) : ∀ (m t : Nat), t + m = T.size → SV.denL (envJ E T) (mkJ 0 sl t m) = T.toList.drop t
  | 0, t, h => by
    simp only [mkJ, SV.denL]
    rw [List.drop_eq_nil_of_le (by rw [Array.length_toList]; omega)]
  | m + 1, t, h => by
    have ht : t < T.toList.length := by rw [Array.length_toList]; omega
    have e : (slotS sl t (.junk (1000 * 0 + t))).den (envJ E T) = T.toList[t] := by
      have e2 : T.getD t Go.undef = T.toList[t] := by
        have : t < T.size := by omega
        simp [this]
      rcases slotS_cases sl t (.junk (1000 * 0 + t)) with h1 | ⟨p, h1, h2, h3⟩
      · rw [h1, ← e2]; simp [SV.den, envJ]
      · rw [h3, hs p h1, h2, e2]
    simp only [mkJ, SV.denL]
    rw [den_mkJ hs m (t + 1) (by omega), e, ← List.drop_eq_getElem_cons ht]
theorem ok_mkJ {H : HV} {sl : List (Nat × SV)} (hs : ∀ p, p ∈ sl → p.2.Ok H) (m t : Nat) : SV.OkL H (mkJ 0 sl t m) := by
  rw [SV.OkL_iff]
  intro x hx
  have : ∀ (m t : Nat), x ∈ mkJ 0 sl t m → ∃ t, x = slotS sl t (.junk (1000 * 0 + t)) := by
    intro m
    induction m with
    | zero => intro t h; simp [mkJ] at h
    | succ m ih =>
      intro t h
      simp only [mkJ, List.mem_cons] at h
      rcases h with h | h
      · exact ⟨t, h⟩
      · exact ih _ h
  obtain ⟨t, rfl⟩ := this m t hx
  rcases slotS_cases sl t (.junk (1000 * 0 + t)) with h1 | ⟨p, h1, _, h3⟩
  · rw [h1]; simp [SV.Ok]
  · rw [h3]; exact hs p h1
theorem stk_to {P : Program} {f : FuncId} {ri : Option (Array Oper × List Nat)} {aw : Option Tmp} {k : List Item} {T : Array Value} {sl : List (Nat × SV)} {n : Nat} {E : Env} {H : HV} {w : World} {R : Value → World → Prop} (hn : n = T.size)
    (hs : ∀ p, p ∈ sl → p.2.den (envJ E T) = T.getD p.1 Go.undef) (hok : ∀ p, p ∈ sl → p.2.Ok H) (hin : InMem H w) (h : At P ⟨⟨f, ri, aw, k, mkJ 0 sl 0 n⟩, [], []⟩ H w R) : StkRun P ctxPlain ⟨f, ri, aw, k, ⟨T, []⟩, none⟩ [] w R := by
  have := h (envJ E T) ⟨ok_mkJ hok _ _, by simp⟩ hin
  simp only [SFrm.den, List.map_nil] at this
  rw [den_mkJ hs n 0 (by omega), List.drop_zero, Array.toArray_toList] at this
  exact this
end Sx
end
section
namespace Sx
open Go RowKit
def innerOk (n : Nat) (H : HV) (w : World) (d : D) : Prop :=
  d.Is Sec ∧ d.Ok H ∧ d.rows ≠ [] ∧ ∃ B c, d.hd = some (⟨B, 0, none⟩, c) ∧ n ≤ B ∧ ∃ cur t, w.heap[B]? = some (.cells cur t (0, 0))
def blkD (d : D) : Nat := d.addr.block
structure BuildI (n : Nat) (H : HV) (w : World) (e : TypeId) (ov : Value) (ds : List D) : Prop where
  own : w.ownsRow n e 1 ov ds.length (flat (ds.map fun d => [d]))
  noH : ∀ b, ov.ownBlock = some b → ∀ x, H b x = none
  inn : ∀ d, d ∈ ds → innerOk n H w d
  dis : (ds.map blkD).Nodup
theorem blkD_of {d : D} {B c : Nat} (h : d.hd = some (⟨B, 0, none⟩, c)) : blkD d = B := by unfold blkD D.addr; rw [h]
theorem innerOk.mono {n : Nat} {H H' : HV} {w w' : World} {d : D} (h : innerOk n H w d) (a : After w H w' H') : innerOk n H' w' d := by
  obtain ⟨h1, h2, h3, B, c, h4, h5, cur, t, h6⟩ := h
  exact ⟨h1, h2.mono a.le, h3, B, c, h4, h5, cur, t, by rw [a.below.block _ (Array.getElem?_eq_some_iff.1 h6).1]; exact h6⟩
theorem innerOk.cell {n : Nat} {H : HV} {w : World} {d : D} (h : innerOk n H w d) : ∃ u, H (blkD d) 0 = some u := by
  obtain ⟨h1, h2, h3, B, c, h4, _⟩ := h
  rw [blkD_of h4]
  have hr := (rows_of h1).1
  cases h2 with
  | slc a c' sz rows hsp hc hlen hcell hk =>
    simp only [D.hd, Option.some.injEq, Prod.mk.injEq] at h4
    obtain ⟨rfl, rfl⟩ := h4
    cases rows with
    | nil => exact absurd rfl h3
    | cons r rs =>
      have := hr r (by simp [D.rows])
      obtain ⟨x0, x1, x2, x3, x4, x5, x6, x7, rfl⟩ := this
      exact ⟨_, by simpa using hcell 0 0 _ _ rfl rfl⟩
  | nil sz => simp [D.hd] at h4
  | int _ _ => simp [D.hd] at h4
  | bool _ => simp [D.hd] at h4
  | str _ => simp [D.hd] at h4
theorem BuildI.mono {n : Nat} {H H' : HV} {w w' : World} {e : TypeId} {ov : Value} {ds : List D} (h : BuildI n H w e ov ds) (a : After w H w' H') : BuildI n H' w' e ov ds := by
  refine ⟨⟨h.own.1, ?_⟩, fun b hb x => ?_, fun d hd => (h.inn d hd).mono a, h.dis⟩
  · rcases h.own.2 with h1 | ⟨g, cap, cur, h1, h2, h3, h4⟩
    · exact .inl h1
    · exact .inr ⟨g, cap, cur, h1, h2, by rw [a.below.block _ (Array.getElem?_eq_some_iff.1 h3).1]; exact h3, h4⟩
  · have hlt : b < w.heap.size := by
      rcases h.own.2 with ⟨h1, _⟩ | ⟨g, cap, cur, h1, h2, h3, h4⟩
      · rw [h1] at hb; simp [Value.ownBlock] at hb
      · rw [h1] at hb
        simp only [Value.ownBlock, Option.some.injEq] at hb
        subst hb
        exact (Array.getElem?_eq_some_iff.1 h3).1
    cases hx : H' b x with
    | none => rfl
    | some u =>
      rcases a.fresh b x u hx with h1 | h1
      · rw [h.noH b hb x] at h1; cases h1
      · omega
theorem pub_inner {w w1 : World} {H H1 : HV} {m : Mem} {E : Env} {k : Nat} {e : TypeId} {d : D} (g : Good ⟨w, H⟩ m E H1 w1) (hg : m.get k = some (.arr e d)) (hs : d.Is Sec) (hne : d.rows ≠ []) :
    ∃ H2, After w H w1 H2 ∧ HLe H1 H2 ∧ innerOk w.heap.size H2 w1 d ∧ (SV.vec k).den E = d.val := by
  obtain ⟨H2, hle, g2, hok, _⟩ := g.publish hg
  obtain ⟨h, sz, rows, rfl, hv, how, _, _, ha⟩ := g.own k _ (Mem.get_mem hg)
  refine ⟨H2, after_good g2, hle, ⟨hs, hok, hne, ?_⟩, ?_⟩
  · rcases how.2 with ⟨h1, h0⟩ | ⟨gg, cap, cur, h1, h2, h3, _⟩
    · exact absurd (List.length_eq_zero_iff.1 h0) hne
    · cases h with
      | none => simp [D.val, hval] at h1
      | some ac =>
        obtain ⟨a, c⟩ := ac
        simp only [D.val, hval, Value.slice.injEq, Option.some.injEq] at h1
        obtain ⟨rfl, _, rfl⟩ := h1
        exact ⟨gg, c, rfl, h2, cur, _, h3⟩
  · simp only [SV.den, hv]; rfl
theorem build_append {P : Program} {w0 w w1 : World} {H0 H H1 : HV} {m : Mem} {E : Env} {k : Nat} {t ty e : TypeId} {i : TypeInfo} {z ov : Value} {ds : List D} {d : D} {hh : Hd}
    (ht : P.underlying t = some (.slice e)) (hi : P.info? e = some i) (hz : i.zero = some z) (hzs : z.cells.size = i.size) (his : i.size = 1) (hib : i.bytes ≤ 1000)
    (a : After w0 H0 w H) (b : BuildI w0.heap.size H w e ov ds) (hd : innerOk w0.heap.size H w d) (hnew : blkD d ∉ ds.map blkD) (g : Good ⟨w, H⟩ m E H1 w1) (hg : m.get k = some (.arr e (.slc hh 1 [[d]]))) (hlen : ds.length ≤ 1048576) {key : Nat} (hkey : Mem.has key m = false) :
    ∃ w2 ov', (Builtin.append_ #[t, t] ty #[ov, (SV.vec k).den E]).run P w1 = .ok ov' w2 ∧ After w0 H0 w2 H1 ∧ BuildI w0.heap.size H1 w2 e ov' (ds ++ [d]) := by
  have a1 := after_good g
  have b1 := b.mono a1
  have hd1 := hd.mono a1
  have a01 := a.trans a1
  have hmem := Mem.get_mem hg
  obtain ⟨h', sz', rows', he, hv, how, hrl, hro, hb⟩ := g.own k _ hmem
  cases he
  have gd : Good ⟨w0, H1⟩ m E H1 w1 := ⟨a01.below, HLe.refl _, fun _ _ _ h => .inl h, g.cell, fun j o hj => (g.own j o hj).ctx a.below.size, g.keys, g.apart, fixOk_plain _ _ _⟩
  have hxr : Reads w1 ((SV.vec k).den E) i.size [[d]] := by
    rw [his]
    have := reads_own (C := ⟨w, H⟩) (H := H1) (g.own k _ hmem)
    simp only [SV.den]
    exact this
  have hold : ∀ r, r ∈ ds.map (fun d => [d]) → r.length = i.size := fun r hr => by obtain ⟨x, _, rfl⟩ := List.mem_map.1 hr; rw [his]; rfl
  obtain ⟨w2, h2, bb, hrun, g2, hsz, hkeep, hbb, hos⟩ := Good.append t ty e i z ht hi hz hzs gd ov (ds.map fun d => [d]) (by rw [his, List.length_map]; exact b1.own) hold
    (fun r hr x hx => by
      obtain ⟨y, hy, rfl⟩ := List.mem_map.1 hr
      rw [List.mem_singleton.1 hx]; exact (b1.inn y hy).2.1)
    (fun q hq => ⟨b1.noH q hq, fun j p hj hl => by
      have h1 := (g.own j p hj).low hl
      have hlt : q < w.heap.size := by
        rcases b.own.2 with ⟨h1, _⟩ | ⟨g', cap, cur, h1, _, h3, _⟩
        · rw [h1] at hq; simp [Value.ownBlock] at hq
        · rw [h1] at hq
          simp only [Value.ownBlock, Option.some.injEq] at hq
          subst hq
          exact (Array.getElem?_eq_some_iff.1 h3).1
      have h1 : w.heap.size ≤ E.b j := h1
      omega⟩)
    ((SV.vec k).den E) [[d]] hxr (fun r hr x hx => by
      rw [List.mem_singleton.1 hr] at hx
      rw [List.mem_singleton.1 hx]; exact hd1.2.1)
    (by
      have : (ds.length + 1) * i.bytes ≤ 1048577 * 1000 := Nat.mul_le_mul (by omega) hib
      rw [List.length_map]
      show (ds.length + 1) * i.bytes ≤ _
      omega)
    (by rw [List.length_map]; show ds.length + 1 ≤ maxLen; unfold maxLen; omega) key hkey
  have hcell2 : ∀ q x u, H1 q x = some u → w2.cell? ⟨q, x, none⟩ = some u := g2.cell
  have o2 := g2.own key _ List.mem_cons_self
  obtain ⟨hx, szx, rowsx, he2, hv2, how2, _, _, ha2⟩ := o2
  cases he2
  have hap : ds.map (fun d => [d]) ++ [[d]] = (ds ++ [d]).map fun d => [d] := by simp
  refine ⟨w2, _, hrun, ⟨g2.below, a01.le, a01.fresh, hcell2⟩, ⟨?_, fun q hq x => ?_, fun y hy => ?_, ?_⟩⟩
  · rw [hap] at how2
    rw [his] at how2
    have e1 : (D.slc h2 1 ((ds ++ [d]).map fun d => [d])).val = hval h2 ((ds.map fun d => [d]).length + [[d]].length) := by
      simp [D.val]
    rw [e1] at how2
    simpa using how2
  · cases h2 with
    | none => simp [hval, Value.ownBlock] at hq
    | some ac =>
      obtain ⟨a', c'⟩ := ac
      simp only [hval, Value.ownBlock, Option.some.injEq] at hq
      obtain ⟨e1, e2⟩ := ha2 a' c' rfl
      rw [← hq, e1]; exact e2 x
  · have hy1 : innerOk w0.heap.size H1 w1 y := by
      rcases List.mem_append.1 hy with h | h
      · exact b1.inn y h
      · rw [List.mem_singleton.1 h]; exact hd1
    obtain ⟨u, hu⟩ := hy1.cell
    obtain ⟨q1, q2, q3, B, c, q4, q5, cur, tt, q6⟩ := hy1
    refine ⟨q1, q2, q3, B, c, q4, q5, cur, tt, ?_⟩
    rw [hkeep B (Array.getElem?_eq_some_iff.1 q6).1 (fun e' => by
      have := b1.noH B e' 0
      rw [blkD_of q4] at hu
      rw [hu] at this; cases this)]
    exact q6
  · rw [List.map_append, List.nodup_append]
    refine ⟨b1.dis, by simp, fun x hx y hy => ?_⟩
    simp only [List.map_cons, List.map_nil, List.mem_singleton] at hy
    subst hy
    intro e'; subst e'; exact hnew hx
theorem nodup_inj : ∀ {l : List Nat}, l.Nodup → ∀ {i j : Nat} (hi : i < l.length) (hj : j < l.length), l[i] = l[j] → i = j
  | [], _, _, _, hi, _, _ => absurd hi (Nat.not_lt_zero _)
  | x :: r, h, i, j, hi, hj, e => by
    rw [List.nodup_cons] at h
    cases i with
    | zero =>
      cases j with
      | zero => rfl
      | succ j =>
        simp only [List.getElem_cons_zero, List.getElem_cons_succ] at e
        exact absurd (e ▸ List.getElem_mem _) h.1
    | succ i =>
      cases j with
      | zero =>
        simp only [List.getElem_cons_zero, List.getElem_cons_succ] at e
        exact absurd (e ▸ List.getElem_mem _) h.1
      | succ j =>
        simp only [List.getElem_cons_succ] at e
        rw [nodup_inj h.2 _ _ e]
theorem build_done {n : Nat} {H : HV} {w : World} {e : TypeId} {ov : Value} {ds : List D} (b : BuildI n H w e ov ds) (hne : ds ≠ []) (hin : InMem H w) :
    ∃ H' o, HLe H H' ∧ InMem H' w ∧ (∀ q x u, H' q x = some u → H q x = some u ∨ n ≤ q) ∧ ImgW n H' w o ∧ o.val = ov ∧ o.rows = ds.map fun d => [d] := by
  rcases b.own.2 with ⟨_, h0⟩ | ⟨g, cap, cur, rfl, hlow, hg, hnc, hcm, hcs, htake⟩
  · exact absurd (List.length_eq_zero_iff.1 h0) hne
  · have hno : ∀ x, H g x = none := b.noH g rfl
    have hle : HLe H (H.row g (flat (ds.map fun d => [d]))) := HV.row_le hno
    let o : D := .slc (some (⟨g, 0, none⟩, cap)) 1 (ds.map fun d => [d])
    have hcell : ∀ v, (hv : v < ds.length) → o.cell v 0 = ds[v] := fun v hv => by
      simp [o, D.cell, D.cellAt, D.rows, hv]
    have hlen : o.len = ds.length := by simp [o, D.len, D.rows]
    have hbk : ∀ v, (hv : v < ds.length) → blk o v = blkD ds[v] := fun v hv => by unfold blk; rw [hcell v hv]; rfl
    refine ⟨H.row g (flat (ds.map fun d => [d])), o, hle, fun q x u hq => ?_, fun q x u hq => ?_, ⟨?_, rfl, ?_, fun v hv => ?_, fun v hv => ?_, fun v hv => ?_, fun v v' h1 h2 e' => ?_, fun v hv => ?_, fun v hv => ?_⟩, by simp [o, D.val, hval], rfl⟩
    · unfold HV.row at hq
      split at hq
      · rename_i e'; subst e'
        simp only [World.cell?, hg, Option.isSome_none, Bool.false_eq_true, if_false]
        rw [← htake, List.getElem?_take] at hq
        split at hq
        · simpa using hq
        · cases hq
      · exact hin q x u hq
    · unfold HV.row at hq
      split at hq
      · rename_i e'; subst e'; exact .inr hlow
      · exact .inl hq
    · refine is_rows rfl fun r hr => ?_
      obtain ⟨d, hd, rfl⟩ := List.mem_map.1 hr
      exact ⟨d, rfl, (b.inn d hd).1⟩
    · refine .slc _ _ _ _ (fun _ => rfl) (by simpa using hnc) (fun r hr => by obtain ⟨d, _, rfl⟩ := List.mem_map.1 hr; rfl) (fun i j r x h1 h2 => ?_) (fun r hr x hx => ?_)
      · simp only [HV.row, if_true, Nat.zero_add]
        exact flat_get (sz := 1) (fun r hr => by obtain ⟨d, _, rfl⟩ := List.mem_map.1 hr; rfl) i j r x h1 h2
      · obtain ⟨d, hd, rfl⟩ := List.mem_map.1 hr
        rw [List.mem_singleton.1 hx]; exact (b.inn d hd).2.1.mono hle
    all_goals rw [hlen] at *
    · rw [hcell v hv]; exact (b.inn _ (List.getElem_mem hv)).2.2.1
    · rw [hbk v hv, hcell v hv]
      obtain ⟨_, _, _, B, c, h4, _⟩ := b.inn _ (List.getElem_mem hv)
      exact ⟨c, by rw [blkD_of h4]; exact h4⟩
    · rw [hbk v hv]
      obtain ⟨_, _, _, B, c, h4, h5, _⟩ := b.inn _ (List.getElem_mem hv)
      rw [blkD_of h4]; exact h5
    · rw [hbk v h1, hbk v' h2] at e'
      have hn := b.dis
      have l1 : v < (ds.map blkD).length := by rw [List.length_map]; exact h1
      have l2 : v' < (ds.map blkD).length := by rw [List.length_map]; exact h2
      have g1 : (ds.map blkD)[v] = blkD ds[v] := List.getElem_map ..
      have g2 : (ds.map blkD)[v'] = blkD ds[v'] := List.getElem_map ..
      exact nodup_inj hn l1 l2 (by rw [g1, g2, e'])
    · rw [hbk v hv]
      obtain ⟨u, hu⟩ := (b.inn _ (List.getElem_mem hv)).cell
      show g ≠ _
      intro e'
      rw [← e', hno] at hu; cases hu
    · rw [hbk v hv]
      obtain ⟨_, _, _, B, c, h4, h5, cur', t', h6⟩ := b.inn _ (List.getElem_mem hv)
      rw [blkD_of h4]; exact ⟨cur', t', h6⟩
theorem innerOk.low {n n' : Nat} {H : HV} {w : World} {d : D} (h : innerOk n H w d) (hn : n' ≤ n) : innerOk n' H w d := by
  obtain ⟨h1, h2, h3, B, c, h4, h5, h6⟩ := h
  exact ⟨h1, h2, h3, B, c, h4, Nat.le_trans hn h5, h6⟩
theorem innerOk.fresh {n : Nat} {H H' : HV} {w w' : World} {e : TypeId} {ov : Value} {ds : List D} {d : D} (h : innerOk w.heap.size H' w' d) (b : BuildI n H w e ov ds) : blkD d ∉ ds.map blkD := by
  intro hm
  obtain ⟨y, hy, hyd⟩ := List.mem_map.1 hm
  obtain ⟨_, _, _, B, c, h4, h5, _⟩ := h
  obtain ⟨_, _, _, B', c', h4', _, cur, t, h6'⟩ := b.inn y hy
  have := (Array.getElem?_eq_some_iff.1 h6').1
  rw [blkD_of h4, blkD_of h4'] at hyd
  omega
def CpR (w0 : World) (H0 : HV) (vs : List Vol) : Value → World → Prop := fun u w' => ∃ H' o, After w0 H0 w' H' ∧ ImgW w0.heap.size H' w' o ∧ u = o.val ∧ o.to Vol = vs
theorem ret_img {P : Program} {w0 w : World} {H0 H : HV} {e : TypeId} {ov : Value} {ds : List D} {vs : List Vol} (a : After w0 H0 w H) (b : BuildI w0.heap.size H w e ov ds) (hne : ds ≠ []) (hto : ds.map (fun d => Vol.mk (d.to Sec)) = vs) :
    (Tree.ret (.raw ov)).holds P ⟨w, H⟩ (CpR w0 H0 vs) := by
  refine ⟨rfl, fun E H' w' g hv => ?_⟩
  have a1 := a.trans (after_good g)
  obtain ⟨H2, o, hle, hin, hfr, hI, hv, hr⟩ := build_done (b.mono (after_good g)) hne g.cell
  refine ⟨H2, o, ⟨a1.below, a1.le.trans hle, fun q x u hq => ?_, hin⟩, hI, hv.symm, ?_⟩
  · rcases hfr q x u hq with h | h
    · exact a1.fresh q x u h
    · exact .inr h
  · simp only [D.to, hr, List.map_map]
    rw [← hto]; rfl
theorem buildI_nil {n : Nat} {H : HV} {w : World} {e : TypeId} : BuildI n H w e (.slice none 0 0) [] :=
  ⟨⟨by simp [flat], .inl ⟨rfl, rfl⟩⟩, fun b hb => by simp [Value.ownBlock] at hb, fun d hd => by simp at hd, by simp⟩
theorem buildI_own {w w1 : World} {H H1 : HV} {m : Mem} {E : Env} {k : Nat} {e : TypeId} {hh : Hd} (g : Good ⟨w, H⟩ m E H1 w1) (hg : m.get k = some (.arr e (.slc hh 1 []))) : BuildI w.heap.size H1 w1 e ((SV.vec k).den E) [] := by
  obtain ⟨h, sz, rows, he, hv, how, _, _, ha⟩ := g.own k _ (Mem.get_mem hg)
  cases he
  refine ⟨?_, fun b hb x => ?_, fun d hd => by simp at hd, by simp⟩
  · simp only [SV.den, hv]
    exact how
  · simp only [SV.den, hv] at hb
    cases hh with
    | none => simp [hval, Value.ownBlock] at hb
    | some ac =>
      obtain ⟨a, c⟩ := ac
      simp only [hval, Value.ownBlock, Option.some.injEq] at hb
      obtain ⟨e1, e2⟩ := ha a c rfl
      rw [← hb, e1]; exact e2 x
theorem stk_call {P : Program} {f : FuncId} {ri : Option (Array Oper × List Nat)} {aw : Option Tmp} {k : List Item} {T : Array Value} {sl : List (Nat × SV)} {n : Nat} {E : Env} {H : HV} {w : World} {R1 R : Value → World → Prop} {g : CFrm} {r : List CFrm} (hn : n = T.size)
    (hs : ∀ p, p ∈ sl → p.2.den (envJ E T) = T.getD p.1 Go.undef) (hok : ∀ p, p ∈ sl → p.2.Ok H) (hin : InMem H w) (h : At P ⟨⟨f, ri, aw, k, mkJ 0 sl 0 n⟩, [], []⟩ H w R1)
    (h2 : ∀ u w', R1 u w' → StkRun P ctxPlain { g with act := g.act.put g.await u } r w' R) : StkRun P ctxPlain ⟨f, ri, aw, k, ⟨T, []⟩, none⟩ (g :: r) w R := by
  have hr := stk_to hn hs hok hin h
  exact CFrm.run_mono hr h2
theorem stk_aw {P : Program} {f : FuncId} {ri : Option (Array Oper × List Nat)} {aw aw' : Option Tmp} {k : List Item} {a : Act} {r : List CFrm} {w : World} {R : Value → World → Prop} (h : StkRun P ctxPlain ⟨f, ri, aw, k, a, none⟩ r w R) : StkRun P ctxPlain ⟨f, ri, aw', k, a, none⟩ r w R := by
  cases r <;> exact h
end Sx
end
section
open Go Go.Proofs Sx
namespace Go.Proofs.Ytdiekahpofifeaa
set_option maxRecDepth 100000
set_option maxHeartbeats 0
section
variable (n j : Int) (d e a b : D) (v s : Int)
theorem cf_in : exec Try.prog [] 200 (entry Try.prog 88 [.dat d, .fn 84 [] []]) =
 Tree.leaf
 (Conf.mk
 (SFrm.mk 88 none none
 [Item.inLoop (cAt Try.prog 88 [1, 0, 1, 0, 0]), Item.inBlock 0, Item.code (cAt Try.prog 88 [1, 1])]
 (mkJ 0 [(0, .dat d), (1, SV.fn 84 [] []), (7, .int .i64 (↑(D.len d) : Int)), (8, .int .i64 0)]
 0 19))
 [] []) := by kernel_rfl

theorem mp_in : exec Try.prog [] 200 (entry Try.prog 72 [.dat d, .fn 73 [] []]) =
 Tree.need
 ((0 : Int) ≤ 0 ∧
 0 ≤ (↑(D.len d) : Int) ∧
 (↑24 : Int) * (↑(D.len d) : Int) ≤ 281474976710656 ∧ (↑(D.len d) : Int) ≤ 9223372036854775807)
 (.all fun hs =>
 .leaf
 (Conf.mk
 (SFrm.mk 72 none none
 [Item.inLoop (cAt Try.prog 72 [1, 1, 0, 1, 0, 0]), Item.inBlock 0, Item.code (cAt Try.prog 72 [1, 1, 1])]
 (mkJ 0
 [(1, SV.fn 73 [] []), (5, .vec 0), (11, .dat d), (12, .int .i64 (↑(D.len d) : Int)),
 (13, .int .i64 0)]
 0 25))
 [] [(0, OBlk.arr 53 (D.slc (D.hd (hs 0 0)) 1 (List.replicate 0 [D.slc none 0 []])))])) := by kernel_rfl

theorem ms_in : exec Try.prog [] 200 (entry Try.prog 89 [.dat d, .fn 90 [] []]) =
 Tree.need
 ((0 : Int) ≤ 0 ∧
 0 ≤ (↑(D.len d) : Int) ∧
 (↑8 : Int) * (↑(D.len d) : Int) ≤ 281474976710656 ∧ (↑(D.len d) : Int) ≤ 9223372036854775807)
 (.all fun hs =>
 .leaf
 (Conf.mk
 (SFrm.mk 89 none none
 [Item.inLoop (cAt Try.prog 89 [1, 1, 0, 1, 0, 0]), Item.inBlock 0, Item.code (cAt Try.prog 89 [1, 1, 1])]
 (mkJ 0
 [(1, SV.fn 90 [] []), (5, .vec 0), (11, .dat d), (12, .int .i64 (↑(D.len d) : Int)),
 (13, .int .i64 0)]
 0 25))
 [] [(0, OBlk.arr 3 (D.slc (D.hd (hs 0 0)) 1 (List.replicate 0 [D.int .i64 0])))])) := by kernel_rfl

theorem ft_in : exec Try.prog [] 200 (entry Try.prog 78 [.dat d, .agg [.int .i64 v, .int .i64 s, .dat e]]) =
 Tree.br (decide (v < 0)) (.ret (.int .i64 7))
 (.br (decide (v ≥ (↑(D.len d) : Int))) (.ret (.int .i64 7))
 (.br (decide ((↑(D.len e) : Int) = 0)) (.ret (.int .i64 1))
 (.all fun hs =>
 .br (decide (s < 0))
 (.need (decide (s < 0) = true)
 (.need (decide (s < 0) = true)
 (.need (decide (s < 0) = true)
 (.need (decide (s < 0) = true)
 (.need (decide (s < 0) = true)
 (.need (decide (s < 0) = true)
 (.need (decide (s < 0) = true)
 (.need (decide (s < 0) = true)
 (.need (decide (s < 0) = true)
 (.need (decide (s < 0) = true)
 (.need (decide (s < 0) = true)
 (.need (decide (s < 0) = true)
 (.need (decide (s < 0) = true)
 (.need (decide (s < 0) = true) (.ret (.int .i64 2))))))))))))))))
 (.need (decide (s < 0) = false)
 (.need (decide (s < 0) = false)
 (.need (decide (s < 0) = false)
 (.need (decide (s < 0) = false)
 (.need (decide (s < 0) = false)
 (.need (decide (s < 0) = false)
 (.need (0 ≤ v ∧ v < (↑(D.len d) : Int) ∧ D.sz d = 1)
 (.need (decide (s < 0) = false)
 (.need (D.HasCell d (Int.toNat v) 0 FT.slc)
 (.need (decide (s < 0) = false)
 (.need (decide (s < 0) = false)
 (.need (decide (s < 0) = false)
 (.need (decide (s < 0) = false)
 (.need (decide (s < 0) = false)
 (.need (decide (s < 0) = false)
 (.need (decide (s < 0) = false)
 (.br
 (decide
 (s >
 IntKind.wrap .i64
 ((↑(D.len (D.cell d (Int.toNat v) 0)) : Int) - (↑(D.len e) : Int))))
 (.ret (.int .i64 2))
 (.ret (.int .i64 0)))))))))))))))))))))) := by kernel_rfl

theorem rs_in : exec Try.prog [] 200 (entry Try.prog 52 [.dat d]) =
 Tree.br (decide ((↑(D.len d) : Int) < 1)) (.ret (.int .i64 6))
 (.br (decide ((↑(D.len d) : Int) > 8)) (.ret (.int .i64 6))
 (.leaf
 (Conf.mk
 (SFrm.mk 52 none none
 [Item.inLoop (cAt Try.prog 52 [1, 1, 0, 1, 0, 0]), Item.inBlock 0, Item.code (cAt Try.prog 52 [1, 1, 1])]
 (mkJ 0 [(0, .dat d), (3, .int .i64 0)] 0 30))
 [] []))) := by kernel_rfl

theorem rf_in : exec Try.prog [] 200 (entry Try.prog 56 [.dat d, .agg [.int .i64 v, .int .i64 s, .dat e]]) =
 Tree.br (decide (v < 0)) (.ret (.int .i64 7))
 (.br (decide (v ≥ (↑(D.len d) : Int))) (.ret (.int .i64 7))
 (.br (decide ((↑(D.len e) : Int) = 0)) (.ret (.int .i64 1))
 (.all fun hs =>
 .br (decide (s < 0))
 (.need (decide (s < 0) = true)
 (.need (decide (s < 0) = true)
 (.need (decide (s < 0) = true)
 (.need (decide (s < 0) = true)
 (.need (decide (s < 0) = true)
 (.need (decide (s < 0) = true)
 (.need (decide (s < 0) = true)
 (.need (decide (s < 0) = true)
 (.need (decide (s < 0) = true) (.ret (.int .i64 2)))))))))))
 (.br (decide (s ≥ D.getInt d (Int.toNat v) 0))
 (.need (decide (s < 0) = false)
 (.need (decide (s < 0) = false)
 (.need (decide (s < 0) = false)
 (.need (decide (s < 0) = false)
 (.need (decide (s < 0) = false)
 (.need (decide (s < 0) = false)
 (.need (0 ≤ v ∧ v < (↑(D.len d) : Int) ∧ D.sz d = 1)
 (.need (decide (s < 0) = false)
 (.need (D.HasCell d (Int.toNat v) 0 (FT.int .i64))
 (.need (decide (s < 0) = false)
 (.need (decide (s < 0) = false)
 (.need (decide (s ≥ D.getInt d (Int.toNat v) 0) = true)
 (.need (decide (s ≥ D.getInt d (Int.toNat v) 0) = true)
 (.need (decide (s ≥ D.getInt d (Int.toNat v) 0) = true)
 (.need (decide (s ≥ D.getInt d (Int.toNat v) 0) = true)
 (.need (decide (s ≥ D.getInt d (Int.toNat v) 0) = true)
 (.need (decide (s ≥ D.getInt d (Int.toNat v) 0) = true)
 (.need (decide (s ≥ D.getInt d (Int.toNat v) 0) = true)
 (.need (decide (s ≥ D.getInt d (Int.toNat v) 0) = true)
 (.need (decide (s ≥ D.getInt d (Int.toNat v) 0) = true)
 (.need (decide (s ≥ D.getInt d (Int.toNat v) 0) = true)
 (.need (decide (s ≥ D.getInt d (Int.toNat v) 0) = true)
 (.need (decide (s ≥ D.getInt d (Int.toNat v) 0) = true)
 (.need (decide (s ≥ D.getInt d (Int.toNat v) 0) = true)
 (.ret (.int .i64 2))))))))))))))))))))))))))
 (.need (decide (s < 0) = false)
 (.need (decide (s < 0) = false)
 (.need (decide (s < 0) = false)
 (.need (decide (s < 0) = false)
 (.need (decide (s < 0) = false)
 (.need (decide (s < 0) = false)
 (.need (0 ≤ v ∧ v < (↑(D.len d) : Int) ∧ D.sz d = 1)
 (.need (decide (s < 0) = false)
 (.need (D.HasCell d (Int.toNat v) 0 (FT.int .i64))
 (.need (decide (s < 0) = false)
 (.need (decide (s < 0) = false)
 (.need (decide (s ≥ D.getInt d (Int.toNat v) 0) = false)
 (.need (decide (s ≥ D.getInt d (Int.toNat v) 0) = false)
 (.need (decide (s ≥ D.getInt d (Int.toNat v) 0) = false)
 (.need (decide (s ≥ D.getInt d (Int.toNat v) 0) = false)
 (.need (decide (s ≥ D.getInt d (Int.toNat v) 0) = false)
 (.need (decide (s ≥ D.getInt d (Int.toNat v) 0) = false)
 (.need (decide (s ≥ D.getInt d (Int.toNat v) 0) = false)
 (.need (0 ≤ v ∧ v < (↑(D.len d) : Int) ∧ D.sz d = 1)
 (.need (decide (s ≥ D.getInt d (Int.toNat v) 0) = false)
 (.need (D.HasCell d (Int.toNat v) 0 (FT.int .i64))
 (.need (decide (s ≥ D.getInt d (Int.toNat v) 0) = false)
 (.need (decide (s ≥ D.getInt d (Int.toNat v) 0) = false)
 (.need (decide (s ≥ D.getInt d (Int.toNat v) 0) = false)
 (.need (decide (s ≥ D.getInt d (Int.toNat v) 0) = false)
 (.need
 (decide (s ≥ D.getInt d (Int.toNat v) 0) = false)
 (.br
 (decide
 ((↑(D.len e) : Int) >
 IntKind.wrap .i64
 (D.getInt d (Int.toNat v) 0 - s)))
 (.ret (.int .i64 2))
 (.ret
 (.int .i64
 0))))))))))))))))))))))))))))))))) := by kernel_rfl

end
end Go.Proofs.Ytdiekahpofifeaa
end
section
namespace Sx
open Go RowKit
class Plain (α : Type) [Codec α] where
  cells : D → Nat → α → List D
  right : ∀ d i r, d.rows[i]? = some r → Codec.ok α r → cells d i (Codec.dec r) = r

section
variable {α : Type} [Codec α] [Plain α]

def plainRows (d : D) : Nat → List α → List (List D)
  | _, [] => []
  | i, x :: r => Plain.cells d i x :: plainRows d (i + 1) r

def D.plain (d : D) (l : List α) : D :=
  .slc d.hd (match l with | [] => d.sz | _ :: _ => Codec.sz α) (plainRows d 0 l)

theorem plainRows_eq (d : D) : ∀ (rows : List (List D)) (i : Nat), (∀ j, (h : j < rows.length) → d.rows[i + j]? = some rows[j]) → (∀ r, r ∈ rows → Codec.ok α r) →
    plainRows d i (rows.map (Codec.dec (α := α))) = rows
  | [], _, _, _ => rfl
  | r :: rs, i, h, ho => by
    simp only [List.map_cons, plainRows]
    rw [Plain.right d i r (h 0 (by simp)) (ho r (by simp)), plainRows_eq d rs (i + 1) (fun j hj => by have := h (j + 1) (by simpa using hj); simpa [Nat.add_assoc, Nat.add_comm 1 j] using this) fun r' hr' => ho r' (by simp [hr'])]

theorem plain_self {d : D} (h : d.Is α) : d.plain (d.to α) = d := by
  obtain ⟨a, b, c, rfl, h1, h2⟩ := h
  unfold D.plain D.to
  simp only [D.rows, D.hd]
  rw [plainRows_eq (α := α) (.slc a b c) c 0 (fun j hj => by simp [D.rows, hj]) h2]
  cases c with
  | nil => rfl
  | cons x r => rcases h1 with h1 | h1
                · cases h1
                · subst h1; rfl

end

instance : Plain Int where
  cells _ _ n := [.int .i64 n]
  right d i r _ h := by obtain ⟨n, rfl⟩ := h; rfl

instance : Plain Byte where
  cells _ _ n := [.int .u8 n.n]
  right d i r _ h := by obtain ⟨n, rfl⟩ := h; rfl
def intRows : List (List D) → Bool
  | [] => true
  | r :: rs => match r with
    | [.int .i64 _] => intRows rs
    | _ => false
def D.allInt (d : D) : Bool :=
  match d with
  | .slc _ s rows => (match rows with | [] => true | _ :: _ => s == 1) && intRows rows
  | _ => false
theorem intRows_ok : ∀ (rows : List (List D)), intRows rows = true → ∀ r, r ∈ rows → Codec.ok Int r
  | [], _, r, h => by cases h
  | x :: rs, h, r, hr => by
    unfold intRows at h
    split at h
    · rcases List.mem_cons.1 hr with rfl | hr
      · exact ⟨_, rfl⟩
      · exact intRows_ok rs h r hr
    · cases h
theorem allInt_is {d : D} (h : d.allInt = true) : d.Is Int := by
  unfold D.allInt at h
  split at h
  · rename_i a s rows
    simp only [Bool.and_eq_true] at h
    refine ⟨_, _, _, rfl, ?_, intRows_ok _ h.2⟩
    cases rows with
    | nil => exact .inl rfl
    | cons x r => right; simpa using h.1
  · cases h
theorem law_alt {P : Program} {f : FuncId} {β : Type} {r : Rd β} {sp sp' : β → SpecR} (h : Law P f (r.sp sp))
    (hh : ∀ b, match sp' b with
      | .no => True
      | .data ps' g' => ∃ ps g, sp b = .data ps g ∧ ((∀ p, p ∈ ps' → p) → ∀ p, p ∈ ps → p) ∧ ∀ ds, ∃ ds', g' ds' = g ds
      | .scalar ps' v' => ∃ ps v, sp b = .scalar ps v ∧ ((∀ p, p ∈ ps' → p) → ∀ p, p ∈ ps → p) ∧ v' = v) : Law P f (r.sp sp') := by
  refine ⟨h.1, fun H E args hargs => ?_⟩
  have h2 := h.2 H E args hargs
  unfold Rd.sp at h2 ⊢
  cases hr : r.read args with
  | none => trivial
  | some b =>
    have hb := hh b
    rw [hr] at h2
    simp only at h2 ⊢
    cases hs : sp' b with
    | no => trivial
    | scalar ps' v' =>
      rw [hs] at hb
      obtain ⟨ps, v, e, h3, rfl⟩ := hb
      rw [e] at h2
      exact fun hp => h2 (h3 hp)
    | data ps' g' =>
      rw [hs] at hb
      obtain ⟨ps, g, e, h3, h4⟩ := hb
      rw [e] at h2
      intro hp w hw
      refine Calls.mono (h2 (h3 hp) w hw) fun e w' ⟨u, H', h5, h6, hs', h7, h8⟩ => ?_
      obtain ⟨ds', h9⟩ := h4 hs'
      exact ⟨u, H', h5, h6, ds', by rw [h9]; exact h7, by rw [h9]; exact h8⟩
end Sx
end
section
namespace Sx
open Go
noncomputable def Tree.dec : Tree → Tree
  | .leaf c => .leaf c
  | .ret v => .ret v
  | .br b t f => match b with
    | true => t.dec
    | false => f.dec
  | .need p t => .need p t.dec
  | .all f => .all fun hs => (f hs).dec
  | .stuck => .stuck

theorem Tree.dec_holds {P : Program} {C : Ctx} {R : Value → World → Prop} (t : Tree) : t.dec.holds P C R → t.holds P C R := by
  induction t with
  | leaf _ => exact id
  | ret _ => exact id
  | br b t f iht ihf =>
    intro h
    cases b with
    | true => exact ⟨fun _ => iht h, fun h' => absurd h' (by decide)⟩
    | false => exact ⟨fun h' => absurd h' (by decide), fun _ => ihf h⟩
  | need _ t ih => exact fun h => ⟨h.1, ih h.2⟩
  | all f ih => exact fun h hs => ih hs (h hs)
  | stuck => exact id

theorem dec_sound {P : Program} {C : Ctx} {R : Value → World → Prop} {cs : Ctrs} (hcs : cs.Ok P) (U : FuncId → Bool) (n : Nat) (c : Conf) {t : Tree}
    (e : (execU P cs U n c).dec = t) (h : t.holds P C R) : Runs P C c R :=
  execU_sound hcs U n c (Tree.dec_holds _ (by rw [e]; exact h))
end Sx
end
section
open Go
namespace Sx
def rdFn (f : FuncId) : Rd1 Unit where
  read x := match x with
    | .fn g [] [] => if g == f then some () else none
    | _ => none
  canon _ := .fn f [] []
  right H E x b h hok := by
    split at h
    · split at h
      · rename_i hg
        simp at hg
        subst hg
        exact ⟨rfl, trivial, trivial⟩
      · cases h
    · cases h
def rdNone : Rd Unit where
  read l := match l with | [] => some () | _ => none
  canon _ := []
  right H E args b h hok := by
    split at h
    · exact ⟨rfl, trivial⟩
    · cases h
def spTrue (_ : Unit) : SpecR := .scalar [] (.lb true)

def idxP (l : List Int) (p : Int → Bool) : Int := match l.findIdx? p with
  | some i => i
  | none => -1
theorem idxP_any (xs : List Int) (p : Int → Bool) : decide (idxP xs p ≥ 0) = xs.any p := by
  rw [Bool.eq_iff_iff]
  simp only [idxP, ge_iff_le, decide_eq_true_eq]
  cases hf : xs.findIdx? p with
  | none =>
    rw [List.findIdx?_eq_none_iff] at hf
    simp only
    constructor
    · intro h; omega
    · intro h
      obtain ⟨x, h1, h2⟩ := List.any_eq_true.1 h
      rw [hf x h1] at h2; cases h2
  | some i =>
    rw [List.findIdx?_eq_some_iff_getElem] at hf
    obtain ⟨hi, h1, _⟩ := hf
    have : xs.any p = true := List.any_eq_true.2 ⟨_, List.getElem_mem hi, h1⟩
    simp only [this, iff_true]
    omega

theorem ret_lbt {P : Program} {w : World} {H : HV} : (Tree.ret (.lb true)).holds P ⟨w, H⟩ (RetS w H (.lb true)) := ret_S fun _ _ => rfl
theorem law_sure {P : Program} {f : FuncId} {β : Type} {r : Rd β} {sp sp' : β → SpecR} (h : Law P f (r.sp sp))
    (hh : ∀ b, ∃ ps v ps', sp b = .scalar ps (.bool v) ∧ sp' b = .scalar ps' (.lb true) ∧ ((∀ p, p ∈ ps' → p) → (∀ p, p ∈ ps → p) ∧ v = true)) : Law P f (r.sp sp') := by
  refine ⟨h.1, fun H E args hargs => ?_⟩
  have h2 := h.2 H E args hargs
  unfold Rd.sp at h2 ⊢
  cases hr : r.read args with
  | none => trivial
  | some b =>
    obtain ⟨ps, v, ps', e1, e2, h3⟩ := hh b
    rw [hr] at h2
    simp only [e1] at h2
    simp only [e2]
    intro hp
    obtain ⟨h4, rfl⟩ := h3 hp
    have h5 := h2 h4
    simpa [SV.den] using h5

def iff (b : Bool) (s : SpecR) : SpecR := match b with | true => s | false => .no
def tabD {γ : Type} [DecidableEq γ] (v : γ) : List γ → (γ → SpecR) → SpecR
  | [], _ => .no
  | t :: r, k => match decide (v = t) with
    | true => k t
    | false => tabD v r k
theorem tabD_or {γ : Type} [DecidableEq γ] (v : γ) (k : γ → SpecR) : ∀ l, tabD v l k = .no ∨ tabD v l k = k v
  | [] => .inl rfl
  | t :: r => by
    unfold tabD
    cases h : decide (v = t) with
    | true => right; simp only [decide_eq_true_eq] at h; subst h; rfl
    | false => exact tabD_or v k r
theorem law_tab {P : Program} {f : FuncId} {β : Type} {r : Rd β} {sp : β → SpecR} {γ : Type} [DecidableEq γ] (h : Law P f (r.sp sp)) (c : β → Bool) (v : β → γ) (tab : List γ) (k : γ → SpecR)
    (hh : ∀ b, c b = true → match k (v b) with
      | .no => True
      | .data ps' g' => ∃ ps g, sp b = .data ps g ∧ ((∀ p, p ∈ ps' → p) → ∀ p, p ∈ ps → p) ∧ ∀ ds, ∃ ds', g' ds' = g ds
      | .scalar ps' v' => ∃ ps v, sp b = .scalar ps v ∧ ((∀ p, p ∈ ps' → p) → ∀ p, p ∈ ps → p) ∧ v' = v) :
    Law P f (r.sp fun b => iff (c b) (tabD (v b) tab k)) :=
  law_alt h fun b => by
    unfold iff
    cases hc : c b with
    | false => trivial
    | true =>
      simp only
      rcases tabD_or (v b) k tab with h1 | h1
      · rw [h1]; trivial
      · rw [h1]; exact hh b hc
theorem vecIn_to {P : Program} {C : Ctx} {R : Value → World → Prop} (K : Nat) (e : TypeId) (sz : Nat) (blk : Option Nat) (off : Nat) {c : Conf} (c' : Conf)
    (hc : (vecIn K e sz blk off c).map (fun c => sortC (renC c)) = some c') (h : Runs P C c' R) : Runs P C c R := by
  cases hv : vecIn K e sz blk off c with
  | none => rw [hv] at hc; cases hc
  | some c2 =>
    rw [hv] at hc
    cases hc
    exact vecIn_sound hv (renC_sound (sortC_sound h))

theorem vecIn2_to {P : Program} {C : Ctx} {R : Value → World → Prop} (K : Nat) (e : TypeId) (sz : Nat) (blk : Option Nat) (off : Nat) (K' : Nat) (e' : TypeId) (sz' : Nat) (blk' : Option Nat) (off' : Nat) {c : Conf} (c' : Conf)
    (hc : ((vecIn K e sz blk off c).bind (vecIn K' e' sz' blk' off')).map (fun c => sortC (renC c)) = some c') (h : Runs P C c' R) : Runs P C c R := by
  cases hv : vecIn K e sz blk off c with
  | none => rw [hv] at hc; cases hc
  | some c2 =>
    rw [hv] at hc
    exact vecIn_sound hv (vecIn_to K' e' sz' blk' off' c' hc h)


theorem set_full {α : Type} [Codec α] {d : D} (hd : d.Is α) {i : Nat} (hi : i < (d.to α).length) {xs : List D} {x : α} (hl : xs.length = Codec.sz α) (hc : Codec.ok α xs) (hx : Codec.dec xs = x) :
    (d.setCells i 0 xs).Is α ∧ (d.setCells i 0 xs).to α = (d.to α).set i x := by
  have hz := hd.size hi
  have hr := rows_of hd
  have hl' := rows_len hr
  have e : cutIn (d.rows.getD i []) 0 xs = xs := by
    have h1 : d.rows.getD i [] = d.rows[i] := by simp [hl', hi]
    have h2 := Codec.len (α := α) d.rows[i] (hr.1 _ (List.getElem_mem _))
    rw [h1]
    simp only [cutIn, List.take_zero, List.nil_append, Nat.zero_add]
    rw [List.drop_eq_nil_of_le (by omega), List.append_nil]
  have := is_of (α := α) (h := d.hd) (s := d.sz) (rows := d.rows.set i xs) (xs := (d.to α).set i x) hz ⟨fun r hr' => by
    rcases List.mem_or_eq_of_mem_set hr' with h | h
    · exact hr.1 r h
    · rw [h]; exact hc, by rw [List.map_set, hr.2, hx]⟩
  unfold D.setCells
  rw [e]
  exact this

end Sx
end
section
open Go Go.Proofs Sx
namespace Go.Proofs.Ytdiekahpofifeaa
set_option maxRecDepth 100000
set_option maxHeartbeats 0
noncomputable def cfL (d : D) (j : Int) : Conf := Conf.mk (SFrm.mk 88 none none [Item.inLoop (cAt Try.prog 88 [1, 0, 1, 0, 0]), Item.inBlock 0, Item.code (cAt Try.prog 88 [1, 1])]
 (mkJ 0 [(0, .dat d), (1, .fn 84 [] []), (7, .int .i64 d.len), (8, .int .i64 j)] 0 19)) [] []
noncomputable def mpL (d o : D) (j : Int) : Conf := Conf.mk (SFrm.mk 72 none none [Item.inLoop (cAt Try.prog 72 [1, 1, 0, 1, 0, 0]), Item.inBlock 0, Item.code (cAt Try.prog 72 [1, 1, 1])]
 (mkJ 0 [(1, .fn 73 [] []), (5, .vec 0), (11, .dat d), (12, .int .i64 d.len), (13, .int .i64 j)] 0 25)) [] [(0, .arr 53 o)]
noncomputable def msL (d o : D) (j : Int) : Conf := Conf.mk (SFrm.mk 89 none none [Item.inLoop (cAt Try.prog 89 [1, 1, 0, 1, 0, 0]), Item.inBlock 0, Item.code (cAt Try.prog 89 [1, 1, 1])]
 (mkJ 0 [(1, .fn 90 [] []), (5, .vec 0), (11, .dat d), (12, .int .i64 d.len), (13, .int .i64 j)] 0 25)) [] [(0, .arr 3 o)]
noncomputable def rsL (d : D) (j : Int) : Conf := Conf.mk (SFrm.mk 52 none none [Item.inLoop (cAt Try.prog 52 [1, 1, 0, 1, 0, 0]), Item.inBlock 0, Item.code (cAt Try.prog 52 [1, 1, 1])]
 (mkJ 0 [(0, .dat d), (3, .int .i64 j)] 0 30)) [] []
section
variable (n j : Int) (d e a b o : D) (v s : Int)
theorem cf_go : exec Try.prog [] 200 (unroll (cfL d j)) =
 Tree.br (decide (j < (↑(D.len d) : Int)))
 (.need (0 ≤ j ∧ j < (↑(D.len d) : Int) ∧ D.sz d = 1)
 (.need (D.HasCell d (Int.toNat j) 0 (FT.int .i64))
 (.br (decide (D.getInt d (Int.toNat j) 0 < 1)) (.ret (.int .i64 j))
 (.br (decide (D.getInt d (Int.toNat j) 0 > 4096)) (.ret (.int .i64 j))
 (.leaf
 (Conf.mk
 (SFrm.mk 88 none none
 [Item.inLoop (cAt Try.prog 88 [1, 0, 1, 0, 0]), Item.inBlock 0, Item.code (cAt Try.prog 88 [1, 1])]
 (mkJ 0
 [(0, .dat d), (1, SV.fn 84 [] []), (7, .int .i64 (↑(D.len d) : Int)),
 (8, .int .i64 (IntKind.wrap .i64 (j + 1)))]
 0 19))
 [] []))))))
 (.ret (.int .i64 (Int.neg 1))) := by kernel_rfl

theorem mp_go : exec Try.prog [] 200 (unroll (mpL d o j)) =
 Tree.br (decide (j < (↑(D.len d) : Int)))
 (.need (0 ≤ j ∧ j < (↑(D.len d) : Int) ∧ D.sz d = 1)
 (.need (D.HasCell d (Int.toNat j) 0 (FT.int .i64))
 (.need
 (0 ≤ D.getInt d (Int.toNat j) 0 ∧
 D.getInt d (Int.toNat j) 0 = D.getInt d (Int.toNat j) 0 ∧
 (↑8 : Int) * D.getInt d (Int.toNat j) 0 ≤ 281474976710656 ∧
 D.getInt d (Int.toNat j) 0 ≤ 9223372036854775807)
 (.all fun hs =>
 .all fun hs_1 =>
 .need
 (D.sz o = 1 ∧
 D.Fits
 (D.slc (D.hd (hs_1 0 0)) 1
 [[D.slc (D.hd (hs 0 0)) 8
 (List.replicate (Int.toNat (D.getInt d (Int.toNat j) 0))
 [D.int .u8 0, D.int .u8 0, D.int .u8 0, D.int .u8 0,
 D.int .u8 0, D.int .u8 0, D.int .u8 0, D.int .u8 0])]])
 1 ∧
 (D.len o +
 D.len
 (D.slc (D.hd (hs_1 0 0)) 1
 [[D.slc (D.hd (hs 0 0)) 8
 (List.replicate (Int.toNat (D.getInt d (Int.toNat j) 0))
 [D.int .u8 0, D.int .u8 0, D.int .u8 0, D.int .u8 0,
 D.int .u8 0, D.int .u8 0, D.int .u8 0,
 D.int .u8 0])]])) *
 24 ≤
 140737488355328 ∧
 D.len o +
 D.len
 (D.slc (D.hd (hs_1 0 0)) 1
 [[D.slc (D.hd (hs 0 0)) 8
 (List.replicate (Int.toNat (D.getInt d (Int.toNat j) 0))
 [D.int .u8 0, D.int .u8 0, D.int .u8 0, D.int .u8 0,
 D.int .u8 0, D.int .u8 0, D.int .u8 0,
 D.int .u8 0])]]) ≤
 9223372036854775807)
 (.all fun hs_2 =>
 .leaf
 (Conf.mk
 (SFrm.mk 72 none none
 [Item.inLoop (cAt Try.prog 72 [1, 1, 0, 1, 0, 0]), Item.inBlock 0,
 Item.code (cAt Try.prog 72 [1, 1, 1])]
 (mkJ 0
 [(1, SV.fn 73 [] []), (5, .vec 0), (11, .dat d),
 (12, .int .i64 (↑(D.len d) : Int)),
 (13, .int .i64 (IntKind.wrap .i64 (j + 1)))]
 0 25))
 []
 [(0,
 OBlk.arr 53
 (D.slc (D.hd (hs_2 0 0)) 1
 (List.append (D.rows o)
 (D.rows
 (D.slc (D.hd (hs_1 0 0)) 1
 [[D.slc (D.hd (hs 0 0)) 8
 (List.replicate (Int.toNat (D.getInt d (Int.toNat j) 0))
 [D.int .u8 0, D.int .u8 0, D.int .u8 0,
 D.int .u8 0, D.int .u8 0, D.int .u8 0,
 D.int .u8 0, D.int .u8 0])]])))))]))))))
 (.ret (.dat o)) := by kernel_rfl

theorem ms_go : exec Try.prog [] 200 (unroll (msL d o j)) =
 Tree.br (decide (j < (↑(D.len d) : Int)))
 (.need (0 ≤ j ∧ j < (↑(D.len d) : Int) ∧ D.sz d = 1)
 (.need (D.HasCell d (Int.toNat j) 0 FT.slc)
 (.all fun hs =>
 .need
 (D.sz o = 1 ∧
 D.Fits (D.slc (D.hd (hs 0 0)) 1 [[D.int .i64 (↑(D.len (D.cell d (Int.toNat j) 0)) : Int)]]) 1 ∧
 (D.len o +
 D.len
 (D.slc (D.hd (hs 0 0)) 1 [[D.int .i64 (↑(D.len (D.cell d (Int.toNat j) 0)) : Int)]])) *
 8 ≤
 140737488355328 ∧
 D.len o +
 D.len (D.slc (D.hd (hs 0 0)) 1 [[D.int .i64 (↑(D.len (D.cell d (Int.toNat j) 0)) : Int)]]) ≤
 9223372036854775807)
 (.all fun hs_1 =>
 .leaf
 (Conf.mk
 (SFrm.mk 89 none none
 [Item.inLoop (cAt Try.prog 89 [1, 1, 0, 1, 0, 0]), Item.inBlock 0,
 Item.code (cAt Try.prog 89 [1, 1, 1])]
 (mkJ 0
 [(1, SV.fn 90 [] []), (5, .vec 0), (11, .dat d), (12, .int .i64 (↑(D.len d) : Int)),
 (13, .int .i64 (IntKind.wrap .i64 (j + 1)))]
 0 25))
 []
 [(0,
 OBlk.arr 3
 (D.slc (D.hd (hs_1 0 0)) 1
 (List.append (D.rows o)
 (D.rows
 (D.slc (D.hd (hs 0 0)) 1
 [[D.int .i64 (↑(D.len (D.cell d (Int.toNat j) 0)) : Int)]])))))])))))
 (.ret (.dat o)) := by kernel_rfl

theorem rs_go : exec Try.prog [] 200 (unroll (rsL d j)) =
 Tree.br (decide (j < (↑(D.len d) : Int)))
 (.need (0 ≤ j ∧ j < (↑(D.len d) : Int) ∧ D.sz d = 1)
 (.need (D.HasCell d (Int.toNat j) 0 (FT.int .i64))
 (.br (decide (D.getInt d (Int.toNat j) 0 < 1)) (.ret (.int .i64 2))
 (.need (0 ≤ j ∧ j < (↑(D.len d) : Int) ∧ D.sz d = 1)
 (.need (D.HasCell d (Int.toNat j) 0 (FT.int .i64))
 (.br (decide (D.getInt d (Int.toNat j) 0 > 4096)) (.ret (.int .i64 2))
 (.leaf
 (Conf.mk
 (SFrm.mk 52 none none
 [Item.inLoop (cAt Try.prog 52 [1, 1, 0, 1, 0, 0]), Item.inBlock 0,
 Item.code (cAt Try.prog 52 [1, 1, 1])]
 (mkJ 0 [(0, .dat d), (3, .int .i64 (IntKind.wrap .i64 (j + 1)))] 0 30))
 [] []))))))))
 (.ret (.int .i64 0)) := by kernel_rfl

end
end Go.Proofs.Ytdiekahpofifeaa
end
section
open Go
namespace Sx
def zSec : Sec := ⟨0, 0, 0, 0, 0, 0, 0, 0⟩
def volOf (n : Int) : Vol := ⟨List.replicate n.toNat zSec⟩
def imgOf (l : List Int) : List Vol := if sizesErr l ≠ 0 then [] else l.map volOf
def volSizes (l : List Vol) : List Int := l.map fun v => (v.l.length : Int)
def fitsI (l : List Vol) (w : Wt) : Int := if sizesErr (volSizes l) ≠ 0 then sizesErr (volSizes l) else fitsErr (volSizes l) w
theorem sizesErr_ok {l : List Int} (h : sizesErr l = 0) : 1 ≤ l.length ∧ l.length ≤ 8 ∧ ∀ n, n ∈ l → 1 ≤ n ∧ n ≤ 4096 := by
  unfold sizesErr at h
  split at h
  · cases h
  · split at h
    · cases h
    · rename_i h1 h2
      refine ⟨by omega, by omega, fun n hn => ?_⟩
      simp only [Bool.not_eq_true, List.any_eq_false] at h2
      have := h2 n hn
      simp only [badSize, Bool.or_eq_false_iff, decide_eq_false_iff_not] at this
      omega
theorem volSizes_img {l : List Int} (h : sizesErr l = 0) : volSizes (imgOf l) = l := by
  unfold imgOf volSizes
  rw [if_neg (by simp [h]), List.map_map]
  conv => rhs; rw [← List.map_id l]
  refine List.map_congr_left fun n hn => ?_
  have := (sizesErr_ok h).2.2 n hn
  simp [volOf]; omega
theorem fitsI_img {l : List Int} (h : sizesErr l = 0) (w : Wt) : fitsI (imgOf l) w = fitsErr l w := by
  unfold fitsI
  rw [volSizes_img h, if_neg (by simp [h])]

theorem fitsErr_wt (l : List Int) (v s : Int) (e : D) : fitsErr l (WtD.wt ⟨v, s, e⟩) = if v < 0 ∨ v ≥ l.length then 7 else if (e.to Sec).length = 0 then 1
    else if s < 0 ∨ s > l.getD v.toNat 0 - (e.to Sec).length then 2 else 0 := rfl
theorem vol_cell {d : D} (h : d.Is Vol) {i : Nat} (hi : i < (d.to Vol).length) : d.HasCell i 0 .slc ∧ (d.cell i 0).Is Sec ∧ (d.to Vol)[i] = ⟨(d.cell i 0).to Sec⟩ := by
  obtain ⟨r, h1, ⟨x, rfl, hx⟩, h3⟩ := h.row hi
  have e : d.cellAt i 0 = some x := by simp [D.cellAt, h1]
  have e2 : d.cell i 0 = x := by simp [D.cell, e]
  rw [h3, e2]
  refine ⟨?_, hx, rfl⟩
  obtain ⟨a, b, c, rfl⟩ := hx.slc
  exact ⟨a, b, c, e⟩
theorem ev_cell {d : D} (h : d.Is Ev) {i : Nat} (hi : i < (d.to Ev).length) : d.HasCells i 0 [.int .i64, .int .i64] ∧ d.getInt i 0 = ((d.to Ev)[i]).kind ∧ d.getInt i 1 = ((d.to Ev)[i]).write := by
  obtain ⟨r, h1, ⟨a, b, rfl⟩, h3⟩ := h.row hi
  rw [h3]
  simp [D.HasCells, D.HasCell, D.getInt, D.cellAt, h1, Codec.dec]
theorem wt_cell {d : D} (h : d.Is Wt) {i : Nat} (hi : i < (d.to Wt).length) : d.HasCells i 0 [.int .i64, .int .i64, .slc] ∧ (d.cell i 2).Is Sec ∧ (d.to Wt)[i] = ⟨d.getInt i 0, d.getInt i 1, (d.cell i 2).to Sec⟩ := by
  obtain ⟨r, h1, ⟨a, b, x, rfl, hx⟩, h3⟩ := h.row hi
  have e2 : d.cell i 2 = x := by simp [D.cell, D.cellAt, h1]
  rw [h3, e2]
  obtain ⟨p, q, s, rfl⟩ := hx.slc
  refine ⟨?_, hx, ?_⟩
  · simp [D.HasCells, D.HasCell, D.cellAt, h1]
  · simp [D.getInt, D.cellAt, h1, Codec.dec]
theorem sec_cell {d : D} (h : d.Is Sec) {i : Nat} (hi : i < (d.to Sec).length) : d.HasCells i 0 [.int .u8, .int .u8, .int .u8, .int .u8, .int .u8, .int .u8, .int .u8, .int .u8] ∧
    (d.to Sec)[i] = ⟨d.getInt i 0, d.getInt i 1, d.getInt i 2, d.getInt i 3, d.getInt i 4, d.getInt i 5, d.getInt i 6, d.getInt i 7⟩ := by
  obtain ⟨r, h1, ⟨a, b, c, e, f, g, k, l, rfl⟩, h3⟩ := h.row hi
  rw [h3]
  simp [D.HasCells, D.HasCell, D.getInt, D.cellAt, h1, Codec.dec]
theorem zvol_is (h : Hd) (n : Int) : (D.slc h 8 (List.replicate n.toNat [D.int IntKind.u8 0, D.int IntKind.u8 0, D.int IntKind.u8 0, D.int IntKind.u8 0, D.int IntKind.u8 0, D.int IntKind.u8 0, D.int IntKind.u8 0, D.int IntKind.u8 0])).Is Sec ∧
    (D.slc h 8 (List.replicate n.toNat [D.int IntKind.u8 0, D.int IntKind.u8 0, D.int IntKind.u8 0, D.int IntKind.u8 0, D.int IntKind.u8 0, D.int IntKind.u8 0, D.int IntKind.u8 0, D.int IntKind.u8 0])).to Sec = List.replicate n.toNat zSec :=
  is_of rfl ⟨fun r hr => by rw [List.eq_of_mem_replicate hr]; exact ⟨0, 0, 0, 0, 0, 0, 0, 0, rfl⟩, by simp [List.map_replicate, Codec.dec, zSec]⟩
theorem vol_one {x : D} (hx : x.Is Sec) : SRows Vol [[x]] [⟨x.to Sec⟩] := rows_one ⟨x, rfl, hx⟩ rfl
theorem int_one (n : Int) : SRows Int [[.int .i64 n]] [n] := rows_one (ok_int n) rfl
theorem ev_one (k w : Int) : SRows Ev [[.int .i64 k, .int .i64 w]] [⟨k, w⟩] := rows_one ⟨k, w, rfl⟩ rfl
theorem wt_one (v s : Int) {x : D} (hx : x.Is Sec) : SRows Wt [[.int .i64 v, .int .i64 s, x]] [⟨v, s, x.to Sec⟩] := rows_one ⟨v, s, x, rfl, hx⟩ rfl
theorem map_take_snoc {α β : Type} (f : α → β) {l : List α} {j : Nat} (h : j < l.length) : (l.take (j + 1)).map f = (l.take j).map f ++ [f l[j]] := by
  rw [List.take_succ_eq_append_getElem h, List.map_append]; rfl

section
variable {P : Program} {w : World} {H : HV}
theorem ret_one {α : Type} [Codec α] {X : SV} {l l' : List α} (hx : Stands α X l) (h : l = l') : (Tree.ret X).holds P ⟨w, H⟩ (RetD w H fun ds => .dat ((ds 0).like l')) := by
  subst h
  obtain ⟨d, h1, h2, h3, h4⟩ := hx
  refine ret_D (fun _ => d) (fun E E' => ?_) (fun H' ho => ?_)
  · rw [h1]; simp only [SV.den, D.like_self h2 h3]
  · simp only [SV.Ok, D.like_self h2 h3]; exact ⟨h4 _ ho, h2.slc⟩
theorem ret_oneI {α : Type} [Codec α] {X : SV} {l l' : List α} {k k' : Int} (hx : Stands α X l) (h : l = l') (hk : k = k') : (Tree.ret (.tup [X, .int .i64 k])).holds P ⟨w, H⟩ (RetD w H fun ds => .tup [.dat ((ds 0).like l'), .int .i64 k']) := by
  subst h; subst hk
  obtain ⟨d, h1, h2, h3, h4⟩ := hx
  refine ret_D (fun _ => d) (fun E E' => ?_) (fun H' ho => ?_)
  · simp only [SV.den, SV.denL, h1, D.like_self h2 h3]
  · simp only [SV.Ok, SV.OkL, D.like_self h2 h3] at ho ⊢; exact ⟨⟨h4 _ ho.1, h2.slc⟩, trivial, trivial⟩
end

def spIdxBad (x : D × Unit) : SpecR := .scalar [x.1.Is Int ∧ x.1.len ≤ 1048576] (.int .i64 (idxP (x.1.to Int) badSize))
def spAnyBad (x : D × Unit) : SpecR := .scalar [x.1.Is Int ∧ x.1.len ≤ 1048576] (.bool ((x.1.to Int).any badSize))
def spSizes (x : D) : SpecR := .scalar [x.Is Int ∧ x.len ≤ 1048576] (.int .i64 (sizesErr (x.to Int)))
noncomputable def spMapN (x : D × Unit) : SpecR := .data [x.1.Is Int ∧ x.1.len ≤ 8 ∧ ∀ n, n ∈ x.1.to Int → 0 ≤ n ∧ n ≤ 4096] fun ds => .dat ((ds 0).like ((x.1.to Int).map volOf))
noncomputable def spMapS (x : D × Unit) : SpecR := .data [x.1.Is Vol ∧ x.1.len ≤ 1048576] fun ds => .dat ((ds 0).like (volSizes (x.1.to Vol)))
noncomputable def spNewI (x : D) : SpecR := .data [x.Is Int ∧ x.len ≤ 1048576] fun ds => .tup [.dat ((ds 0).like (imgOf (x.to Int))), .int .i64 (sizesErr (x.to Int))]
noncomputable def spSzs (x : D) : SpecR := .data [x.Is Vol ∧ x.len ≤ 1048576] fun ds => .dat ((ds 0).like (volSizes (x.to Vol)))
def spChkI (x : D) : SpecR := .scalar [x.Is Vol ∧ x.len ≤ 1048576] (.int .i64 (sizesErr (volSizes (x.to Vol))))
def ImgOk (d : D) : Prop := d.Is Vol ∧ d.len ≤ 1048576 ∧ ∀ v, v ∈ d.to Vol → v.l.length ≤ 1048576
def WtD.Ok (x : WtD) : Prop := x.d.Is Sec ∧ x.d.len ≤ 1048576
def spFits1 (x : D × WtD) : SpecR := .scalar [ImgOk x.1 ∧ x.2.Ok] (.int .i64 (fitsErr (volSizes (x.1.to Vol)) x.2.wt))
def spFitsI (x : D × WtD) : SpecR := .scalar [ImgOk x.1 ∧ x.2.Ok] (.int .i64 (fitsI (x.1.to Vol) x.2.wt))
def spFitsR (x : D × WtD) : SpecR := .scalar [x.1.Is Int ∧ x.1.len ≤ 1048576 ∧ (∀ n, n ∈ x.1.to Int → 1 ≤ n ∧ n ≤ 4096) ∧ x.2.Ok] (.int .i64 (fitsErr (x.1.to Int) x.2.wt))
end Sx
end
section
open Go Go.Proofs Sx
namespace Go.Proofs.Ytdiekahpofifeaa
set_option maxRecDepth 100000

theorem lawIdx : Law Try.prog 88 ((rdD.two (rdFn 84)).sp spIdxBad) := by
  refine law_in _ (by kernel_rfl) fun H w ⟨d, u⟩ hok hp => ?_
  obtain ⟨hd, hlen⟩ := hp _ (List.mem_singleton.2 rfl)
  simp only at hd hlen
  rw [D.Is.length (α := Int)] at hlen
  apply exec_sound (noCtr _) 200
  rw [show (rdD.two (rdFn 84)).canon (d, u) = [.dat d, .fn 84 [] []] from rfl, cf_in]
  refine runs_loop (fun j : Nat => cfL d j) (fun j => j ≤ (d.to Int).length ∧ ((d.to Int).take j).findIdx? badSize = none) (fun j => (d.to Int).length - j) (fun _ => rfl) ?_ 0 ⟨Nat.zero_le _, by simp⟩
  intro j ⟨hj, hpre⟩ ih
  apply exec_sound (noCtr _) 200
  rw [cf_go]
  have hl := D.Is.length (α := Int) d
  have found : ∀ hc : j < (d.to Int).length, badSize (d.to Int)[j] = true → (d.to Int).findIdx? badSize = some j := by
    intro hc hb
    rw [List.findIdx?_eq_some_iff_getElem]
    refine ⟨hc, hb, fun i hi => ?_⟩
    rw [List.findIdx?_eq_none_iff] at hpre
    have := hpre (d.to Int)[i] (List.mem_take_iff_getElem.2 ⟨i, by omega, rfl⟩)
    simp [this]
  refine ⟨fun hc => ?_, fun hc => ?_⟩
  · simp [hl] at hc
    obtain ⟨c1, c2, c3⟩ := int_at hd hc
    rw [c3]
    refine ⟨c1, c2, fun hc2 => ret_int ?_, fun hc2 => ⟨fun hc3 => ret_int ?_, fun hc3 => ?_⟩⟩
    · simp only [idxP, found hc (by simp [badSize, hc2])]
    · simp only [idxP, found hc (by simp [badSize, hc3])]
    · have := ih (j + 1) ⟨hc, by rw [List.take_succ_eq_append_getElem hc, List.findIdx?_append, hpre]; simp at hc2 hc3; simp [badSize]; omega⟩ (by omega)
      rw [← wrap_succ hc hlen] at this
      exact this
  · simp [hl] at hc
    have : j = (d.to Int).length := by omega
    subst this
    rw [List.take_length] at hpre
    exact ret_int (by simp only [idxP, hpre]; rfl)

theorem lawMapN : Law Try.prog 72 ((rdD.two (rdFn 73)).sp spMapN) := by
  refine law_in _ (by kernel_rfl) fun H w ⟨d, u⟩ hok hp => ?_
  obtain ⟨hd, hlen, hn⟩ := hp _ (List.mem_singleton.2 rfl)
  simp only at hd hlen hn
  have hl := D.Is.length (α := Int) d
  apply exec_sound (noCtr _) 200
  rw [show (rdD.two (rdFn 73)).canon (d, u) = [.dat d, .fn 73 [] []] from rfl, mp_in]
  refine ⟨⟨by omega, by omega, by omega, by omega⟩, fun hs => ?_⟩
  refine runs_loop (fun p : D × Nat => mpL d p.1 p.2) (fun p => p.2 ≤ (d.to Int).length ∧ p.1.Is Vol ∧ p.1.sz = 1 ∧ p.1.to Vol = ((d.to Int).take p.2).map volOf) (fun p => (d.to Int).length - p.2) (fun _ => rfl) ?_
    (.slc (D.hd (hs 0 0)) 1 [], 0) ⟨Nat.zero_le _, is_nil _ _, rfl, rfl⟩
  intro ⟨o, j⟩ ⟨hj, ho, hz, hto⟩ ih
  simp only at hj ho hz hto
  have hol := D.Is.length (α := Vol) o
  rw [hto] at hol
  simp only [List.length_map, List.length_take] at hol
  apply exec_sound (noCtr _) 200
  rw [mp_go]
  refine ⟨fun hc => ?_, fun hc => ?_⟩
  · simp [hl] at hc
    obtain ⟨c1, c2, c3⟩ := int_at hd hc
    have hb := hn _ (List.getElem_mem hc)
    rw [c3]
    refine ⟨c1, c2, ⟨hb.1, rfl, by omega, by omega⟩, fun hs1 hs2 => ⟨⟨hz, .inr rfl, by simp only [len_slc, List.length_cons, List.length_nil]; omega, by simp only [len_slc, List.length_cons, List.length_nil]; omega⟩, fun hs3 => ?_⟩⟩
    obtain ⟨z1, z2⟩ := zvol_is (D.hd (hs1 0 0)) (d.to Int)[j]
    have hr := rows_app (rows_of ho) (vol_one z1)
    obtain ⟨i1, i2⟩ := is_of (h := D.hd (hs3 0 0)) (s := 1) rfl hr
    have := ih (_, j + 1) ⟨hc, i1, rfl, i2.trans (by rw [hto, map_take_snoc _ hc, z2]; rfl)⟩ (by simp only; omega)
    simp only at this
    rw [← wrap_succ hc (by omega)] at this
    exact this
  · simp [hl] at hc
    have : j = (d.to Int).length := by omega
    subst this
    rw [List.take_length] at hto
    exact ret_one (stands_dat ho hto) rfl

theorem lawMapS : Law Try.prog 89 ((rdD.two (rdFn 90)).sp spMapS) := by
  refine law_in _ (by kernel_rfl) fun H w ⟨d, u⟩ hok hp => ?_
  obtain ⟨hd, hlen⟩ := hp _ (List.mem_singleton.2 rfl)
  simp only at hd hlen
  have hl := D.Is.length (α := Vol) d
  apply exec_sound (noCtr _) 200
  rw [show (rdD.two (rdFn 90)).canon (d, u) = [.dat d, .fn 90 [] []] from rfl, ms_in]
  refine ⟨⟨by omega, by omega, by omega, by omega⟩, fun hs => ?_⟩
  refine runs_loop (fun p : D × Nat => msL d p.1 p.2) (fun p => p.2 ≤ (d.to Vol).length ∧ p.1.Is Int ∧ p.1.sz = 1 ∧ p.1.to Int = volSizes ((d.to Vol).take p.2)) (fun p => (d.to Vol).length - p.2) (fun _ => rfl) ?_
    (.slc (D.hd (hs 0 0)) 1 [], 0) ⟨Nat.zero_le _, is_nil _ _, rfl, rfl⟩
  intro ⟨o, j⟩ ⟨hj, ho, hz, hto⟩ ih
  simp only at hj ho hz hto
  have hol := D.Is.length (α := Int) o
  rw [hto] at hol
  simp only [volSizes, List.length_map, List.length_take] at hol
  apply exec_sound (noCtr _) 200
  rw [ms_go]
  refine ⟨fun hc => ?_, fun hc => ?_⟩
  · simp [hl] at hc
    obtain ⟨c1, c2, c3⟩ := vol_cell hd hc
    refine ⟨⟨by omega, by omega, hd.size hc⟩, c1, fun hs1 => ⟨⟨hz, .inr rfl, by simp only [len_slc, List.length_cons, List.length_nil]; omega, by simp only [len_slc, List.length_cons, List.length_nil]; omega⟩, fun hs3 => ?_⟩⟩
    have hr := rows_app (rows_of ho) (int_one (D.len (D.cell d j 0)))
    obtain ⟨i1, i2⟩ := is_of (h := D.hd (hs3 0 0)) (s := 1) rfl hr
    have := ih (_, j + 1) ⟨hc, i1, rfl, i2.trans (by rw [hto]; unfold volSizes; rw [map_take_snoc _ hc, c3, D.Is.length (α := Sec)])⟩ (by simp only; omega)
    simp only at this
    rw [← wrap_succ hc (by omega)] at this
    exact this
  · simp [hl] at hc
    have : j = (d.to Vol).length := by omega
    subst this
    rw [List.take_length] at hto
    exact ret_one (stands_dat ho hto) rfl

theorem lawSizesR : Law Try.prog 52 (rdD.one.sp spSizes) := by
  refine law_in _ (by kernel_rfl) fun H w d hok hp => ?_
  obtain ⟨hd, hlen⟩ := hp _ (List.mem_singleton.2 rfl)
  have hl := D.Is.length (α := Int) d
  apply exec_sound (noCtr _) 200
  rw [show rdD.one.canon d = [.dat d] from rfl, rs_in]
  refine ⟨fun hc => ret_int ?_, fun hc => ⟨fun hc2 => ret_int ?_, fun hc2 => ?_⟩⟩
  · simp [hl] at hc; unfold sizesErr; rw [if_pos (by omega)]
  · simp [hl] at hc2; unfold sizesErr; rw [if_pos (by omega)]
  simp only [decide_eq_false_iff_not] at hc hc2
  have h6 : ¬((d.to Int).length < 1 ∨ (d.to Int).length > 8) := by omega
  refine runs_loop (fun j : Nat => rsL d j) (fun j => j ≤ (d.to Int).length ∧ ((d.to Int).take j).any badSize = false) (fun j => (d.to Int).length - j) (fun _ => rfl) ?_ 0 ⟨Nat.zero_le _, by simp⟩
  intro j ⟨hj, hpre⟩ ih
  apply exec_sound (noCtr _) 200
  rw [rs_go]
  have bad : ∀ hc : j < (d.to Int).length, badSize (d.to Int)[j] = true → 2 = sizesErr (d.to Int) := fun hc hb => by
    unfold sizesErr
    rw [if_neg h6, if_pos (List.any_eq_true.2 ⟨_, List.getElem_mem hc, hb⟩)]
  refine ⟨fun hc => ?_, fun hc => ret_int ?_⟩
  · simp [hl] at hc
    obtain ⟨c1, c2, c3⟩ := int_at hd hc
    rw [c3]
    refine ⟨c1, c2, fun h1 => ret_int (bad hc (by simp [badSize, h1])), fun h1 => ⟨c1, c2, fun h2 => ret_int (bad hc (by simp [badSize, h2])), fun h2 => ?_⟩⟩
    have := ih (j + 1) ⟨hc, by rw [List.take_succ_eq_append_getElem hc, List.any_append, hpre]; simp [badSize]; simp at h1 h2; omega⟩ (by omega)
    rw [← wrap_succ hc (by omega)] at this
    exact this
  · simp [hl] at hc
    have : j = (d.to Int).length := by omega
    subst this
    rw [List.take_length] at hpre
    unfold sizesErr
    rw [if_neg h6, if_neg (by simp [hpre])]

theorem lawFits1 : Law Try.prog 78 ((rdD.two rdWt).sp spFits1) := by
  refine law_in _ (by kernel_rfl) fun H w ⟨d, ⟨v, s, e⟩⟩ hok hp => ?_
  obtain ⟨⟨hd, hlen, hv⟩, he, hel⟩ := hp _ (List.mem_singleton.2 rfl)
  simp only at hd hlen hv he hel
  have hl := D.Is.length (α := Vol) d
  have hl2 := D.Is.length (α := Sec) e
  have hvl : (volSizes (d.to Vol)).length = (d.to Vol).length := by simp [volSizes]
  apply exec_sound (noCtr _) 200
  rw [show (rdD.two rdWt).canon (d, ⟨v, s, e⟩) = [.dat d, .agg [.int .i64 v, .int .i64 s, .dat e]] from rfl, ft_in]
  have f1 : (v < 0 ∨ v ≥ ((d.to Vol).length : Int)) → 7 = fitsErr (volSizes (d.to Vol)) (WtD.wt ⟨v, s, e⟩) := fun h => by rw [fitsErr_wt, hvl, if_pos h]
  refine ⟨fun h1 => ret_int (f1 (.inl (of_decide_eq_true h1))), fun h1 => ⟨fun h2 => ret_int (f1 (.inr (by have := of_decide_eq_true h2; omega))), fun h2 => ?_⟩⟩
  have h1' := of_decide_eq_false h1
  have h2' := of_decide_eq_false h2
  have hc : ¬(v < 0 ∨ v ≥ ((d.to Vol).length : Int)) := by omega
  obtain ⟨y, rfl⟩ := Int.eq_ofNat_of_zero_le (show 0 ≤ v by omega)
  have hy : y < (d.to Vol).length := by omega
  obtain ⟨c1, c2, c3⟩ := vol_cell hd hy
  have hvy := hv _ (List.getElem_mem hy)
  have hls := D.Is.length (α := Sec) (d.cell y 0)
  rw [c3] at hvy
  simp only at hvy
  have hg : (volSizes (d.to Vol)).getD (Int.toNat (y : Int)) 0 = ((d.cell y 0).len : Int) := by
    simp only [Int.toNat_natCast, volSizes]
    rw [getD_lt (by simpa using hy)]
    simp only [List.getElem_map, c3, hls]
  have ef : fitsErr (volSizes (d.to Vol)) (WtD.wt ⟨y, s, e⟩) = if (e.to Sec).length = 0 then 1 else if s < 0 ∨ s > ((d.cell y 0).len : Int) - (e.to Sec).length then 2 else 0 := by
    rw [fitsErr_wt, hvl, if_neg hc, hg]
  refine ⟨fun h3 => ret_int ?_, fun h3 hs => ?_⟩
  · have := of_decide_eq_true h3; rw [ef, if_pos (by omega)]
  have h3' := of_decide_eq_false h3
  have e0 : ¬(e.to Sec).length = 0 := by omega
  rw [if_neg e0] at ef
  refine ⟨fun h4 => ?_, fun h4 => ?_⟩
  · have h4' := of_decide_eq_true h4
    rw [if_pos (.inl h4')] at ef
    repeat' first
    | exact h4
    | exact ret_int ef.symm
    | refine ⟨?_, ?_⟩
  · have h4' := of_decide_eq_false h4
    have hw : IntKind.i64.wrap (((d.cell (Int.toNat (y : Int)) 0).len : Int) - (e.len : Int)) = ((d.cell y 0).len : Int) - (e.to Sec).length := by
      simp only [Int.toNat_natCast]; rw [wrap64 (by omega) (by omega), hl2]
    have i0 : 0 ≤ (y : Int) ∧ (y : Int) < (d.len : Int) ∧ d.sz = 1 := ⟨by omega, by omega, hd.size hy⟩
    have fin : ((Tree.br (decide (s > IntKind.i64.wrap (((d.cell (Int.toNat (y : Int)) 0).len : Int) - (e.len : Int)))) (Tree.ret (SV.int .i64 2)) (Tree.ret (SV.int .i64 0))).holds Try.prog ⟨w, H⟩ (RetS w H (.int .i64 (fitsErr (volSizes (d.to Vol)) (WtD.wt ⟨y, s, e⟩))))) := by
      refine ⟨fun h5 => ret_int ?_, fun h5 => ret_int ?_⟩
      · have := of_decide_eq_true h5; rw [hw] at this; rw [ef, if_pos (.inr this)]
      · have := of_decide_eq_false h5; rw [hw] at this; rw [ef, if_neg (by omega)]
    repeat' first
    | exact h4
    | exact i0
    | exact c1
    | exact fin
    | refine ⟨?_, ?_⟩

theorem lawFitsR : Law Try.prog 56 ((rdD.two rdWt).sp spFitsR) := by
  refine law_in _ (by kernel_rfl) fun H w ⟨d, ⟨v, s, e⟩⟩ hok hp => ?_
  obtain ⟨hd, hlen, hv, he, hel⟩ := hp _ (List.mem_singleton.2 rfl)
  simp only at hd hlen hv he hel
  have hl := D.Is.length (α := Int) d
  have hl2 := D.Is.length (α := Sec) e
  apply exec_sound (noCtr _) 200
  rw [show (rdD.two rdWt).canon (d, ⟨v, s, e⟩) = [.dat d, .agg [.int .i64 v, .int .i64 s, .dat e]] from rfl, rf_in]
  have f1 : (v < 0 ∨ v ≥ ((d.to Int).length : Int)) → 7 = fitsErr (d.to Int) (WtD.wt ⟨v, s, e⟩) := fun h => by rw [fitsErr_wt, if_pos h]
  refine ⟨fun h1 => ret_int (f1 (.inl (of_decide_eq_true h1))), fun h1 => ⟨fun h2 => ret_int (f1 (.inr (by have := of_decide_eq_true h2; omega))), fun h2 => ?_⟩⟩
  have h1' := of_decide_eq_false h1
  have h2' := of_decide_eq_false h2
  have hc : ¬(v < 0 ∨ v ≥ ((d.to Int).length : Int)) := by omega
  obtain ⟨y, rfl⟩ := Int.eq_ofNat_of_zero_le (show 0 ≤ v by omega)
  have hy : y < (d.to Int).length := by omega
  obtain ⟨c1, c2, c3⟩ := int_at hd hy
  have hvy := hv _ (List.getElem_mem hy)
  have hg : (d.to Int).getD (Int.toNat (y : Int)) 0 = (d.to Int)[y] := by simp [hy]
  have ef : fitsErr (d.to Int) (WtD.wt ⟨y, s, e⟩) = if (e.to Sec).length = 0 then 1 else if s < 0 ∨ s > (d.to Int)[y] - (e.to Sec).length then 2 else 0 := by
    rw [fitsErr_wt, if_neg hc, hg]
  refine ⟨fun h3 => ret_int ?_, fun h3 hs => ?_⟩
  · have := of_decide_eq_true h3; rw [ef, if_pos (by omega)]
  have h3' := of_decide_eq_false h3
  have e0 : ¬(e.to Sec).length = 0 := by omega
  rw [if_neg e0] at ef
  rw [c3]
  refine ⟨fun h4 => ?_, fun h4 => ⟨fun h5 => ?_, fun h5 => ?_⟩⟩
  · rw [if_pos (.inl (of_decide_eq_true h4))] at ef
    repeat' first
    | exact h4
    | exact ret_int ef.symm
    | refine ⟨?_, ?_⟩
  · rw [if_pos (.inr (by have := of_decide_eq_true h5; omega))] at ef
    repeat' first
    | exact h4
    | exact h5
    | exact c1
    | exact c2
    | exact ret_int ef.symm
    | refine ⟨?_, ?_⟩
  · have h4' := of_decide_eq_false h4
    have h5' := of_decide_eq_false h5
    have hw : IntKind.i64.wrap ((d.to Int)[y] - s) = (d.to Int)[y] - s := wrap64 (by omega) (by omega)
    have fin : ((Tree.br (decide ((e.len : Int) > IntKind.i64.wrap ((d.to Int)[y] - s))) (Tree.ret (SV.int .i64 2)) (Tree.ret (SV.int .i64 0))).holds Try.prog ⟨w, H⟩ (RetS w H (.int .i64 (fitsErr (d.to Int) (WtD.wt ⟨y, s, e⟩))))) := by
      refine ⟨fun h6 => ret_int ?_, fun h6 => ret_int ?_⟩
      · have := of_decide_eq_true h6; rw [hw] at this; rw [ef, if_pos (by omega)]
      · have := of_decide_eq_false h6; rw [hw] at this; rw [ef, if_neg (by omega)]
    repeat' first
    | exact h4
    | exact h5
    | exact c1
    | exact c2
    | exact fin
    | refine ⟨?_, ?_⟩
end Go.Proofs.Ytdiekahpofifeaa
end
section
open Go Go.Proofs Sx
namespace Go.Proofs.Ytdiekahpofifeaa
set_option maxRecDepth 100000
set_option maxHeartbeats 0
section
variable (n j k w : Int) (d e a b i o ha hb hc ga gb gc : D) (v s : Int)
theorem any_in : exec Try.prog [(88, ctrOf ((rdD.two (rdFn 84)).sp spIdxBad))] 200 (entry Try.prog 83 [.dat d, .fn 84 [] []]) =
 Tree.need (D.Is Int d ∧ D.len d ≤ 1048576) (.ret (.bool (decide (idxP (D.to Int d) badSize ≥ 0)))) := by kernel_rfl

theorem cs_in : exec Try.prog [(83, ctrOf ((rdD.two (rdFn 84)).sp spAnyBad))] 200 (entry Try.prog 71 [.dat d]) =
 Tree.br (decide ((↑(D.len d) : Int) < 1)) (.ret (.int .i64 6))
 (.br (decide ((↑(D.len d) : Int) > 8)) (.ret (.int .i64 6))
 (.need (D.Is Int d ∧ D.len d ≤ 1048576)
 (.br (List.any (D.to Int d) badSize) (.ret (.int .i64 2)) (.ret (.int .i64 0))))) := by kernel_rfl

theorem new_in : exec Try.prog [(71, ctrOf (rdD.one.sp spSizes)), (72, ctrOf ((rdD.two (rdFn 73)).sp spMapN))] 200 (entry Try.prog 50 [.dat d]) =
 Tree.need (D.Is Int d ∧ D.len d ≤ 1048576)
 (.br (sizesErr (D.to Int d) != 0) (.ret (SV.tup [.nils, .int .i64 (sizesErr (D.to Int d))]))
 (.need (D.Is Int d ∧ D.len d ≤ 8 ∧ ∀ (n : Int), List.Mem n (D.to Int d) → 0 ≤ n ∧ n ≤ 4096)
 (.all fun hs =>
 .ret (SV.tup [.dat (D.like (hs 0 0) (List.map volOf (D.to Int d))), .int .i64 0])))) := by kernel_rfl

theorem sz_in : exec Try.prog [(89, ctrOf ((rdD.two (rdFn 90)).sp spMapS))] 200 (entry Try.prog 85 [.dat d]) =
 Tree.need (D.Is Vol d ∧ D.len d ≤ 1048576)
 (.all fun hs => .ret (.dat (D.like (hs 0 0) (volSizes (D.to Vol d))))) := by kernel_rfl

theorem chk_in : exec Try.prog [(85, ctrOf (rdD.one.sp spSzs)), (71, ctrOf (rdD.one.sp spSizes))] 200 (entry Try.prog 76 [.dat d]) =
 Tree.need (D.Is Vol d ∧ D.len d ≤ 1048576)
 (.all fun hs =>
 .need
 (D.Is Int (D.like (hs 0 0) (volSizes (D.to Vol d))) ∧ D.len (D.like (hs 0 0) (volSizes (D.to Vol d))) ≤ 1048576)
 (.ret (.int .i64 (sizesErr (D.to Int (D.like (hs 0 0) (volSizes (D.to Vol d)))))))) := by kernel_rfl

theorem fits_in : exec Try.prog [(76, ctrOf (rdD.one.sp spChkI)), (78, ctrOf ((rdD.two rdWt).sp spFits1))] 200 (entry Try.prog 66 [.dat d, .agg [.int .i64 v, .int .i64 s, .dat e]]) =
 Tree.need (D.Is Vol d ∧ D.len d ≤ 1048576)
 (.br (sizesErr (volSizes (D.to Vol d)) != 0) (.ret (.int .i64 (sizesErr (volSizes (D.to Vol d)))))
 (.need (ImgOk d ∧ WtD.Ok (WtD.mk v s e))
 (.ret (.int .i64 (fitsErr (volSizes (D.to Vol d)) (WtD.wt (WtD.mk v s e))))))) := by kernel_rfl

theorem at_in : exec Try.prog [] 200 (entry Try.prog 48 [.dat d, .agg [.int .i64 k, .int .i64 w]]) =
 Tree.leaf
 (Conf.mk
 (SFrm.mk 48 none none
 [Item.inLoop (cAt Try.prog 48 [1, 0, 1, 0, 0]), Item.inBlock 0, Item.code (cAt Try.prog 48 [1, 1])]
 (mkJ 0 [(0, .dat d), (3, .ptr 0 0), (5, .int .i64 0)] 0 19))
 [] [(0, OBlk.cells 77 [.int .i64 k, .int .i64 w])]) := by kernel_rfl

theorem ints_in : exec Try.prog [] 200 (entry Try.prog 53 [.dat a, .dat b]) =
 Tree.br ((↑(D.len a) : Int) != (↑(D.len b) : Int)) (.ret (.lb false))
 (.leaf
 (Conf.mk
 (SFrm.mk 53 none none
 [Item.inLoop (cAt Try.prog 53 [1, 1, 0, 1, 0, 0]), Item.inBlock 0, Item.code (cAt Try.prog 53 [1, 1, 1])]
 (mkJ 0 [(0, .dat a), (1, .dat b), (5, .int .i64 0)] 0 26))
 [] [])) := by kernel_rfl

theorem evs_in : exec Try.prog [] 200 (entry Try.prog 55 [.dat a, .dat b]) =
 Tree.br ((↑(D.len a) : Int) != (↑(D.len b) : Int)) (.ret (.lb false))
 (.leaf
 (Conf.mk
 (SFrm.mk 55 none none
 [Item.inLoop (cAt Try.prog 55 [1, 1, 0, 1, 0, 0]), Item.inBlock 0, Item.code (cAt Try.prog 55 [1, 1, 1])]
 (mkJ 0 [(0, .dat a), (1, .dat b), (5, .int .i64 0)] 0 26))
 [] [])) := by kernel_rfl

theorem secs_in : exec Try.prog [] 200 (entry Try.prog 74 [.dat a, .dat b]) =
 Tree.br ((↑(D.len a) : Int) != (↑(D.len b) : Int)) (.ret (.lb false))
 (.leaf
 (Conf.mk
 (SFrm.mk 74 none none
 [Item.inLoop (cAt Try.prog 74 [1, 1, 0, 1, 0, 0]), Item.inBlock 0, Item.code (cAt Try.prog 74 [1, 1, 1])]
 (mkJ 0 [(0, .dat a), (1, .dat b), (5, .int .i64 0)] 0 26))
 [] [])) := by kernel_rfl

theorem wts_in : exec Try.prog [] 200 (entry Try.prog 54 [.dat a, .dat b]) =
 Tree.br ((↑(D.len a) : Int) != (↑(D.len b) : Int)) (.ret (.lb false))
 (.leaf
 (Conf.mk
 (SFrm.mk 54 none none
 [Item.inLoop (cAt Try.prog 54 [1, 1, 0, 1, 0, 0]), Item.inBlock 0, Item.code (cAt Try.prog 54 [1, 1, 1])]
 (mkJ 0 [(0, .dat a), (1, .dat b), (5, .int .i64 0)] 0 55))
 [] [])) := by kernel_rfl

theorem has_in : exec Try.prog [] 200 (entry Try.prog 70 [.dat a, .int .i64 n]) =
 Tree.leaf
 (Conf.mk
 (SFrm.mk 70 none none
 [Item.inLoop (cAt Try.prog 70 [1, 0, 1, 0, 0]), Item.inBlock 0, Item.code (cAt Try.prog 70 [1, 1])]
 (mkJ 0 [(0, .dat a), (1, .int .i64 n), (5, .int .i64 0)] 0 18))
 [] []) := by kernel_rfl

theorem set_in : exec Try.prog [] 200 (entry Try.prog 46 [.dat a, .int .i64 n]) =
 Tree.leaf
 (Conf.mk
 (SFrm.mk 46 none none
 [Item.inLoop (cAt Try.prog 46 [1, 0, 1, 0, 0]), Item.inBlock 0, Item.code (cAt Try.prog 46 [1, 1])]
 (mkJ 0 [(0, .dat a), (1, .int .i64 n), (5, .int .i64 0)] 0 41))
 [] []) := by kernel_rfl

theorem isset_in : exec Try.prog [] 200 (entry Try.prog 44 [.agg [.dat ha, .dat hb, .dat hc, .dat i, .dat o], .dat a]) =
 Tree.leaf
 (Conf.mk
 (SFrm.mk 44 none none
 [Item.inLoop (cAt Try.prog 44 [1, 0, 1, 0, 0]), Item.inBlock 0, Item.code (cAt Try.prog 44 [1, 1])]
 (mkJ 0
 [(1, .dat a), (2, .ptr 0 0), (7, .dat a), (8, .int .i64 (↑(D.len a) : Int)),
 (9, .int .i64 0)]
 0 38))
 [] [(0, OBlk.cells 81 [.dat ha, .dat hb, .dat hc, .dat i, .dat o])]) := by kernel_rfl

theorem few_in : exec Try.prog [] 200 (entry Try.prog 11 [.agg [.dat ha, .dat hb, .dat hc]]) =
 Tree.br (decide ((↑(D.len ha) : Int) > 9)) (.ret (.lb false))
 (.br (decide ((↑(D.len hb) : Int) > 40)) (.ret (.lb false))
 (.br (decide ((↑(D.len hc) : Int) > 90)) (.ret (.lb false))
 (.leaf
 (Conf.mk
 (SFrm.mk 11 none none
 [Item.inLoop (cAt Try.prog 11 [1, 1, 0, 1, 0, 0]), Item.inBlock 0, Item.code (cAt Try.prog 11 [1, 1, 1])]
 (mkJ 0 [(1, .ptr 0 0), (3, .int .i64 0)] 0 49))
 [] [(0, OBlk.cells 26 [.dat ha, .dat hb, .dat hc])])))) := by kernel_rfl

theorem tb_in : exec Try.prog [] 200 (entry Try.prog 42 [.agg [.dat i, .dat o], .int .i64 n, .int .i64 j]) =
 Tree.all fun hs =>
 .br (decide (D.getInt o (Int.toNat n) 0 ≥ 0))
 (.need (0 ≤ n ∧ n < (↑(D.len o) : Int) ∧ D.sz o = 1)
 (.need (D.HasCell o (Int.toNat n) 0 (FT.int .i64))
 (.need (decide (D.getInt o (Int.toNat n) 0 ≥ 0) = true)
 (.need (decide (D.getInt o (Int.toNat n) 0 ≥ 0) = true)
 (.need (decide (D.getInt o (Int.toNat n) 0 ≥ 0) = true)
 (.need (decide (D.getInt o (Int.toNat n) 0 ≥ 0) = true)
 (.need (0 ≤ n ∧ n < (↑(D.len o) : Int) ∧ D.sz o = 1)
 (.need (decide (D.getInt o (Int.toNat n) 0 ≥ 0) = true)
 (.need (D.HasCell o (Int.toNat n) 0 (FT.int .i64))
 (.need (decide (D.getInt o (Int.toNat n) 0 ≥ 0) = true)
 (.need (decide (D.getInt o (Int.toNat n) 0 ≥ 0) = true)
 (.need (decide (D.getInt o (Int.toNat n) 0 ≥ 0) = true)
 (.need (decide (D.getInt o (Int.toNat n) 0 ≥ 0) = true)
 (.need (0 ≤ j ∧ j < (↑(D.len i) : Int) ∧ D.sz i = 1)
 (.need (decide (D.getInt o (Int.toNat n) 0 ≥ 0) = true)
 (.need (D.HasCell i (Int.toNat j) 0 (FT.int .i64))
 (.need (decide (D.getInt o (Int.toNat n) 0 ≥ 0) = true)
 (.need (decide (D.getInt o (Int.toNat n) 0 ≥ 0) = true)
 (.ret
 (.bool
 (decide
 (D.getInt o (Int.toNat n) 0 <
 D.getInt i (Int.toNat j) 0))))))))))))))))))))))
 (.need (0 ≤ n ∧ n < (↑(D.len o) : Int) ∧ D.sz o = 1)
 (.need (D.HasCell o (Int.toNat n) 0 (FT.int .i64))
 (.need (decide (D.getInt o (Int.toNat n) 0 ≥ 0) = false)
 (.need (decide (D.getInt o (Int.toNat n) 0 ≥ 0) = false)
 (.need (decide (D.getInt o (Int.toNat n) 0 ≥ 0) = false)
 (.need (decide (D.getInt o (Int.toNat n) 0 ≥ 0) = false)
 (.need (decide (D.getInt o (Int.toNat n) 0 ≥ 0) = false)
 (.need (decide (D.getInt o (Int.toNat n) 0 ≥ 0) = false)
 (.need (decide (D.getInt o (Int.toNat n) 0 ≥ 0) = false)
 (.need (decide (D.getInt o (Int.toNat n) 0 ≥ 0) = false)
 (.need (decide (D.getInt o (Int.toNat n) 0 ≥ 0) = false)
 (.need (decide (D.getInt o (Int.toNat n) 0 ≥ 0) = false)
 (.need (decide (D.getInt o (Int.toNat n) 0 ≥ 0) = false)
 (.need (decide (D.getInt o (Int.toNat n) 0 ≥ 0) = false)
 (.ret (.lb false)))))))))))))))) := by kernel_rfl

theorem iss_in : exec Try.prog [] 200 (entry Try.prog 57 [.int .i64 n]) =
 Tree.ret (.agg [.int .i64 0, .int .i64 n]) := by kernel_rfl

theorem ack_in : exec Try.prog [] 200 (entry Try.prog 49 [.int .i64 n]) =
 Tree.ret (.agg [.int .i64 1, .int .i64 n]) := by kernel_rfl

end
end Go.Proofs.Ytdiekahpofifeaa
end
section
open Go
namespace Sx
theorem atEv_hit {l : List Ev} {e : Ev} {j : Nat} (hj : j < l.length) (h : atEv (l.take j) e = -1) (he : l[j] = e) : atEv l e = j := by
  conv => lhs; rw [← List.take_append_drop j l, List.drop_eq_getElem_cons hj]
  rw [atEv_append, h, if_pos (by decide), atEv_cons, if_pos he, if_neg (by decide), List.length_take]
  omega
theorem atEv_miss {l : List Ev} {e : Ev} {j : Nat} (hj : j < l.length) (h : atEv (l.take j) e = -1) (he : l[j] ≠ e) : atEv (l.take (j + 1)) e = -1 := by
  rw [atEv_take hj, h, if_pos (by decide), if_neg he]
structure EvD where
  k : Int
  w : Int
def EvD.ev (x : EvD) : Ev := ⟨x.k, x.w⟩
def rdEv : Rd1 EvD where
  read x := match x with
    | .agg [.int .i64 k, .int .i64 w] => some ⟨k, w⟩
    | _ => none
  canon h := .agg [.int .i64 h.k, .int .i64 h.w]
  right H E x b h hok := by
    split at h
    · cases h; exact ⟨rfl, trivial, trivial, trivial⟩
    · cases h
def spAt (x : D × EvD) : SpecR := .scalar [x.1.Is Ev ∧ x.1.len ≤ 1048576] (.int .i64 (atEv (x.1.to Ev) x.2.ev))
def spIssE (n : Int) : SpecR := .data [] fun _ => .agg [.int .i64 0, .int .i64 n]
def spAckE (n : Int) : SpecR := .data [] fun _ => .agg [.int .i64 1, .int .i64 n]
def spInts (x : D × D) : SpecR := .scalar [x.1.Is Int ∧ x.2.Is Int ∧ x.1.len ≤ 1048576] (.bool (decide (x.1.to Int = x.2.to Int)))
def spEvs (x : D × D) : SpecR := .scalar [x.1.Is Ev ∧ x.2.Is Ev ∧ x.1.len ≤ 1048576] (.bool (decide (x.1.to Ev = x.2.to Ev)))
def spSecs (x : D × D) : SpecR := .scalar [x.1.Is Sec ∧ x.2.Is Sec ∧ x.1.len ≤ 1048576] (.bool (decide (x.1.to Sec = x.2.to Sec)))
def spWts (x : D × D) : SpecR := .scalar [x.1.Is Wt ∧ x.2.Is Wt ∧ x.1.len ≤ 1048576 ∧ ∀ w, w ∈ x.1.to Wt → w.data.length ≤ 1048576] (.bool (decide (x.1.to Wt = x.2.to Wt)))
def spHas (x : D × Int) : SpecR := .scalar [x.1.Is Int ∧ x.1.len ≤ 1048576] (.bool ((x.1.to Int).contains x.2))
def setUp (l : List Int) (n : Int) : Nat → Bool
  | 0 => true
  | i + 1 => setUp l n i && (decide (0 ≤ l.getD i 0) && (decide (l.getD i 0 < n) && (decide (i = 0) || decide (l.getD (i - 1) 0 < l.getD i 0))))
def setH (l : List Int) (n : Int) : Bool := setUp l n l.length
theorem setUp_mono {l : List Int} {n : Int} {i : Nat} : ∀ {k : Nat}, setUp l n (i + k) = true → setUp l n i = true
  | 0, h => h
  | k + 1, h => by
    have : setUp l n (i + k + 1) = true := h
    simp only [setUp, Bool.and_eq_true] at this
    exact setUp_mono this.1
theorem setH_false {l : List Int} {n : Int} {i : Nat} (hi : i < l.length) (h : (decide (0 ≤ l.getD i 0) && (decide (l.getD i 0 < n) && (decide (i = 0) || decide (l.getD (i - 1) 0 < l.getD i 0)))) = false) : setH l n = false := by
  cases hs : setH l n with
  | false => rfl
  | true =>
    obtain ⟨k, hk⟩ := Nat.exists_eq_add_of_le (show i + 1 ≤ l.length by omega)
    unfold setH at hs
    rw [hk] at hs
    have := setUp_mono hs
    simp only [setUp, h, Bool.and_false] at this
    cases this
def spSet (x : D × Int) : SpecR := .scalar [x.1.Is Int ∧ x.1.len ≤ 1048576] (.bool (setH (x.1.to Int) x.2))
def spIsSet (x : CkD × D) : SpecR := .scalar [x.2.Is Int ∧ x.2.len ≤ 1048576 ∧ x.1.w.Is Wt] (.bool (setH (x.2.to Int) (x.1.w.to Wt).length))
def fewH (h : Hist) : Bool := decide (h.sizes.length ≤ 9) && (decide (h.writes.length ≤ 40) && (decide (h.events.length ≤ 90) && (h.sizes.all (fun n => decide (n ≤ 24)) && h.writes.all fun w => decide (w.data.length ≤ 30))))
def spFew (x : HiD) : SpecR := .scalar [x.s.Is Int ∧ x.w.Is Wt ∧ x.e.Is Ev] (.bool (fewH x.hist))
theorem same_not {α : Type} {a b : List α} (h : a ≠ b) [DecidableEq α] : false = decide (a = b) := by rw [decide_eq_false h]
theorem list_eq_of {α : Type} {a b : List α} {n : Nat} (h1 : a.length = b.length) (h2 : n = a.length) (h : a.take n = b.take n) : a = b := by
  subst h2; rwa [List.take_length, h1, List.take_length] at h
theorem take_succ_eq {α : Type} {a b : List α} {j : Nat} (h1 : j < a.length) (h2 : j < b.length) (h : a.take j = b.take j) (he : a[j] = b[j]) : a.take (j + 1) = b.take (j + 1) := by
  rw [List.take_succ_eq_append_getElem h1, List.take_succ_eq_append_getElem h2, h, he]
end Sx
end
