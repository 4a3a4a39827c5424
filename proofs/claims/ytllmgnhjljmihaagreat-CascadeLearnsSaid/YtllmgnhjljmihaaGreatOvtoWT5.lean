/- A region whose order is drawn, in the symbolic machine. -/
import Derived.Test.YtllmgnhjljmihaaGreatKtoOw
import Derived.ProofKit
import Derived.OpenShut
import Derived.Below
import Derived.Carry
import Derived.Deep.Slices
import Derived.ChangeOld
import Derived.KernelRfl
import Derived.Test.YtllmgnhjljmihaaGreatProg
set_option linter.all false
section
namespace Sx
open Go RowKit

noncomputable def ordT (P : Program) (cs : Ctrs) (ih : Conf → Tree) (c : Conf) (ops : Array Oper) (ri : Option (Array Oper × List Nat)) (k : List Item) (depth : Nat) (hs : Nat → Nat → D) : Nat → List (Nat × Bool) → Tree
  | 0, _ => .stuck
  | n + 1, dec => match canonR P cs ops depth dec hs (List.range ops.size) (c.top.tmps, c.mem) with
    | .done s es => match checkR ops depth (masks ops.toList []) es s.2 with
      | true => needs (es.flatMap (·.ps)) (ih { c with top := { c.top with ri := ri, todo := k, tmps := s.1 }, mem := s.2 })
      | false => .stuck
    | .ask t b => .br b (ordT P cs ih c ops ri k depth hs n ((t, true) :: dec)) (ordT P cs ih c ops ri k depth hs n ((t, false) :: dec))
    | .bad => .stuck
def depthFor (ops : Array Oper) (c : Conf) : Nat → Nat → Option Nat
  | 0, _ => none
  | n + 1, d => match checkS ops d (masks ops.toList []) (c.top.tmps, c.mem) c.rest with
    | true => some d
    | false => depthFor ops c n (d + 10)
def depthK {β : Type _} : List SFrm → Nat → (Nat → β) → β
  | [], n, k => k n
  | _ :: r, n, k => depthK r (n + 1) k
theorem depthK_eq {β : Type _} : ∀ (r : List SFrm) (n : Nat) (k : Nat → β), depthK r n k = k (n + r.length)
  | [], n, k => rfl
  | _ :: r, n, k => by simp only [depthK, depthK_eq r, List.length_cons]; congr 1; omega
def isElt (ops : Array Oper) (x : Operand) : Bool :=
  match x with
  | .tmp t => ops.toList.any fun o => match o.dst with
    | some d => d == t && (match o.op with
      | .indexAddr .. => true
      | _ => false)
    | none => false
  | _ => false
def bareCall (cs : Ctrs) (ops : Array Oper) : List Oper → Nat → Option Nat
  | [], _ => none
  | o :: r, n => match o.op with
    | .call c => match c.callee with
      | .value (.func f) => match cs.find f with
        | none => some n
        | some _ => bareCall cs ops r (n + 1)
      | .builtin .copy => some n
      | _ => bareCall cs ops r (n + 1)
    | .store _ a _ => match isElt ops a with
      | true => some n
      | false => bareCall cs ops r (n + 1)
    | _ => bareCall cs ops r (n + 1)

noncomputable def drawC (P : Program) (cs : Ctrs) (ih : Conf → Tree) (c : Conf) (ops : Array Oper) (k : List Item) : Tree :=
  match P.follows .mixedOrders && Region.noSelect ops && calmOps ops with
  | true => match bareCall cs ops ops.toList 0 with
    | none => depthK c.rest 1 fun d => match depthFor ops c 40 d with
      | some depth => .all fun hs => ordT P cs ih c ops none k depth hs 12 []
      | none => .stuck
    | some n => match forcedR ops n with
      | true => natF n fun n => depthK c.rest 1 fun d => match depthFor (ops.extract 0 n) c 40 d with
        | some depth => .all fun hs => ordT P cs ih c (ops.extract 0 n) (some (ops, List.range' n (ops.size - n))) k depth hs 12 []
        | none => .stuck
      | false => match floatR ops n with
        | true => natF n fun n => depthK c.rest 1 fun d => match depthFor (ops.extract 0 n) c 40 d with
          | some depth => match depthFor (opsF ops n) c 40 d with
            | some depth' => .all fun h => .br (D.isNil (h 0 0)) (.all fun hs => ordT P cs ih c (ops.extract 0 n) (some (ops, List.range' n (ops.size - n))) k depth hs 12 [])
                (.all fun hs => ordT P cs ih c (opsF ops n) (some (ops, n :: List.range' (n + 2) (ops.size - (n + 2)))) k depth' hs 12 [])
            | none => .stuck
          | none => .stuck
        | false => .stuck
  | false => .stuck

section
variable {P : Program} {C : Ctx} {cs : Ctrs}

theorem depthFor_spec {ops : Array Oper} {c : Conf} : ∀ {n d depth : Nat}, depthFor ops c n d = some depth → checkS ops depth (masks ops.toList []) (c.top.tmps, c.mem) c.rest = true
  | 0, _, _, h => by cases h
  | n + 1, d, depth, h => by
    simp only [depthFor] at h
    split at h
    · rename_i hc; cases h; exact hc
    · exact depthFor_spec h

theorem ordT_sound {R : Value → World → Prop} {ih : Conf → Tree} (hih : ∀ c, (ih c).holds P C R → Runs P C c R) {c : Conf} {ops : Array Oper} {ri : Option (Array Oper × List Nat)} {k : List Item} {depth : Nat} {hs : Nat → Nat → D} :
    ∀ {n : Nat} {dec : List (Nat × Bool)}, (ordT P cs ih c ops ri k depth hs n dec).holds P C R →
      Chk P cs ops depth (c.top.tmps, c.mem) hs fun s => Runs P C ⟨⟨c.top.fn, ri, c.top.await, k, s.1⟩, c.rest, s.2⟩ R
  | 0, _, h => h.elim
  | n + 1, dec, h => by
    simp only [ordT] at h
    split at h
    · rename_i s es hc
      split at h
      · rename_i hk
        obtain ⟨h1, h2⟩ := needs_holds h
        exact chk_of hc hk (fun e he p hp => h1 p (List.mem_flatMap.2 ⟨e, he, hp⟩)) (hih _ h2)
      · exact h.elim
    · rename_i t b hc
      cases b with
      | true => exact ordT_sound hih (h.1 rfl)
      | false => exact ordT_sound hih (h.2 rfl)
    · exact h.elim

theorem drawC_sound (hcs : cs.Ok P) {R : Value → World → Prop} {ih : Conf → Tree} (hih : ∀ c, (ih c).holds P C R → Runs P C c R) {f : FuncId} {aw : Option Tmp} {id : Nat} {ops : Array Oper} {k : List Item}
    {tmps : List SV} {rest : List SFrm} {mem : Mem}
    (h : (drawC P cs ih ⟨⟨f, none, aw, .code (.region id ops true) :: k, tmps⟩, rest, mem⟩ ops k).holds P C R) : Runs P C ⟨⟨f, none, aw, .code (.region id ops true) :: k, tmps⟩, rest, mem⟩ R := by
  unfold drawC at h
  split at h
  · rename_i hc
    simp only [Bool.and_eq_true] at hc
    obtain ⟨⟨hm, hsel⟩, hcalm⟩ := hc
    split at h
    · rw [depthK_eq] at h
      split at h
      · rename_i depth hd
        obtain ⟨c1, c2⟩ := checkS_spec (depthFor_spec hd)
        have hchk : ∀ hs, Chk P cs ops depth (tmps, mem) hs fun s => Runs P C ⟨⟨f, none, aw, k, s.1⟩, rest, s.2⟩ R := fun hs => ordT_sound hih (h hs)
        intro E H w g ok
        rw [stkRun_eq]
        simp only [SFrm.dn, CFrm.run]
        refine Go1.draw hm hcalm ?_
        have gd := g.drew
        exact ord_sound (ri := none) (aw := aw) hcs hchk c1 c2 ops.size [] (Array.replicate ops.size false) [] (fun _ _ => default) (fun _ => ⟨[], .undef, [], none, none, none, none⟩) E H w.drew (by simp) .nil (by simp) (fun j hj => by simp [hj]) trivial
          (by simp) gd ok.1 ok.2 rfl
      · exact h.elim
    · rename_i n hb
      split at h
      · rename_i hf
        rw [natF_eq, depthK_eq] at h
        split at h
        · rename_i depth hd
          obtain ⟨c1, c2⟩ := checkS_spec (depthFor_spec hd)
          have hn := (forcedR_spec hf).1
          have hsz : (ops.extract 0 n).size = n := by simp; omega
          have hchk : ∀ hs, Chk P cs (ops.extract 0 n) depth (tmps, mem) hs fun s => Runs P C ⟨⟨f, some (ops, List.range' n (ops.size - n)), aw, k, s.1⟩, rest, s.2⟩ R := fun hs => ordT_sound hih (h hs)
          intro E H w g ok
          rw [stkRun_eq]
          simp only [SFrm.dn, CFrm.run]
          refine Go1.draw hm hcalm ?_
          have gd := g.drew
          have key := ord_sound (E0 := E) (ri := some (ops, List.range' n (ops.size - n))) (aw := aw) hcs hchk c1 c2 (ops.extract 0 n).size [] (Array.replicate n false) [] (fun _ _ => default) (fun _ => ⟨[], .undef, [], none, none, none, none⟩) E H w.drew (by simp) .nil (by simp; omega)
            (fun j hj => by have : j < n := by omega
                            simp [this]) trivial (by simp) gd ok.1 ok.2 rfl
          rw [hsz] at key
          have := wpAny_head (Q := Qk P (roOf C.x rest) f k (restOf P C.x (rest.map (SFrm.den E)) R)) hf (Q' := Qi P (roOf C.x rest) f (some (ops, List.range' n (ops.size - n))) aw k (restOf P C.x (rest.map (SFrm.den E)) R)) (fun e a w h => h.1) (fun a w h => h.2)
            n [] (Array.replicate n false) (Array.replicate ops.size false) _ w.drew (by simp) .nil (by simp) (by simp) (fun j hj => by simp [hj]) (by simp) (fun j hj => by simp [hj]) key
          rw [show n + (ops.size - n) = ops.size by omega] at this
          exact this
        · exact h.elim
      · split at h
        · rename_i hf
          rw [natF_eq, depthK_eq] at h
          split at h
          · rename_i depth hd
            split at h
            · rename_i depth' hd'
              obtain ⟨c1, c2⟩ := checkS_spec (depthFor_spec hd)
              obtain ⟨c1', c2'⟩ := checkS_spec (depthFor_spec hd')
              have hn := (floatR_spec hf).1
              have hsz : (ops.extract 0 n).size = n := by simp; omega
              have hszF := opsF_size (ops := ops) hn
              -- what is not looked at in one of the two arms may be changed
              have hchkB : ∀ hs, Chk P cs (ops.extract 0 n) depth (tmps, mem) hs fun s => Runs P C ⟨⟨f, some (ops, List.range' n (ops.size - n)), aw, k, s.1⟩, rest, s.2⟩ R := fun hs =>
                ordT_sound hih ((h fun _ _ => .slc none 0 []).1 rfl hs)
              have hchkA : ∀ hs, Chk P cs (opsF ops n) depth' (tmps, mem) hs fun s => Runs P C ⟨⟨f, some (ops, n :: List.range' (n + 2) (ops.size - (n + 2))), aw, k, s.1⟩, rest, s.2⟩ R := fun hs =>
                ordT_sound hih ((h fun _ _ => .slc (some (⟨0, 0, none⟩, 0)) 0 []).2 rfl hs)
              intro E H w g ok
              rw [stkRun_eq]
              simp only [SFrm.dn, CFrm.run]
              refine Go1.draw hm hcalm ?_
              have gd := g.drew
              have keyB := ord_sound (E0 := E) (ri := some (ops, List.range' n (ops.size - n))) (aw := aw) hcs hchkB c1 c2 (ops.extract 0 n).size [] (Array.replicate n false) [] (fun _ _ => default) (fun _ => ⟨[], .undef, [], none, none, none, none⟩) E H w.drew (by simp) .nil (by simp; omega)
                (fun j hj => by have : j < n := by omega
                                simp [this]) trivial (by simp) gd ok.1 ok.2 rfl
              have keyA := ord_sound (E0 := E) (ri := some (ops, n :: List.range' (n + 2) (ops.size - (n + 2)))) (aw := aw) hcs hchkA c1' c2' (opsF ops n).size [] (Array.replicate (n + 1) false) [] (fun _ _ => default) (fun _ => ⟨[], .undef, [], none, none, none, none⟩) E H w.drew (by simp) .nil (by rw [hszF]; simp)
                (fun j hj => by have : j < n + 1 := by omega
                                simp [this]) trivial (by simp) gd ok.1 ok.2 rfl
              rw [hsz] at keyB
              rw [hszF] at keyA
              have := wpAny_float (Q := Qk P (roOf C.x rest) f k (restOf P C.x (rest.map (SFrm.den E)) R)) hf
                (QA := Qi P (roOf C.x rest) f (some (ops, n :: List.range' (n + 2) (ops.size - (n + 2)))) aw k (restOf P C.x (rest.map (SFrm.den E)) R)) (QB := Qi P (roOf C.x rest) f (some (ops, List.range' n (ops.size - n))) aw k (restOf P C.x (rest.map (SFrm.den E)) R))
                (fun e a w h => h.1) (fun e a w h => h.1) (fun a w h => h.2) (fun a w h => h.2)
                n [] (Array.replicate (n + 1) false) (Array.replicate n false) (Array.replicate ops.size false) _ w.drew (by simp) .nil (by simp) (by simp) (fun j hj => by
                  have : j < n + 1 := by omega
                  simp [this]) (by simp) (by simp) (fun j hj => by simp [hj]) (by simp) (fun j hj => by simp [hj]) keyA keyB
              rw [show n + (ops.size - n) = ops.size by omega] at this
              exact this
            · exact h.elim
          · exact h.elim
        · exact h.elim
  · exact h.elim
end
end Sx
end
section
namespace Sx
open Go RowKit

mutual
def SV.ren (ρ : Nat → Nat) : SV → SV
  | .vec k => .vec (ρ k)
  | .ptr k o => .ptr (ρ k) o
  | .velt k s i j => .velt (ρ k) s i j
  | .view k s i j => .view (ρ k) s i j
  | .mapp k => .mapp (ρ k)
  | .agg l => .agg (SV.renL ρ l)
  | .tup l => .tup (SV.renL ρ l)
  | .fn f a c => .fn f (SV.renL ρ a) (SV.renL ρ c)
  | .int k n => .int k n
  | .bool b => .bool b
  | .lb b => .lb b
  | .str s => .str s
  | .nils => .nils
  | .dat d => .dat d
  | .elt d i j => .elt d i j
  | .nilp => .nilp
  | .nilf => .nilf
  | .undef => .undef
  | .junk i => .junk i
  | .raw v => .raw v
def SV.renL (ρ : Nat → Nat) : List SV → List SV
  | [] => []
  | x :: r => SV.ren ρ x :: SV.renL ρ r
end

def OBlk.ren (ρ : Nat → Nat) : OBlk → OBlk
  | .cells t cs => .cells t (SV.renL ρ cs)
  | .map es => .map (es.map fun e => (e.1.ren ρ, e.2.ren ρ))
  | .arr e d => .arr e d
  | .pub d => .pub d

def Ren (ρ : Nat → Nat) (E E' : Env) (k : Nat) : Prop := E'.b (ρ k) = E.b k ∧ E'.v (ρ k) = E.v k

mutual
theorem SV.den_ren {ρ : Nat → Nat} {E E' : Env} (hj : E'.j = E.j) : ∀ x : SV, (∀ k, k ∈ x.keys → Ren ρ E E' k) → (x.ren ρ).den E' = x.den E
  | .vec k, h => by simp only [SV.ren, SV.den, (h k (by simp [SV.keys])).2]
  | .ptr k _, h => by simp only [SV.ren, SV.den, (h k (by simp [SV.keys])).1]
  | .velt k _ _ _, h => by simp only [SV.ren, SV.den, (h k (by simp [SV.keys])).1]
  | .view k _ _ _, h => by simp only [SV.ren, SV.den, (h k (by simp [SV.keys])).2]
  | .mapp k, h => by simp only [SV.ren, SV.den, (h k (by simp [SV.keys])).1]
  | .agg l, h => by simp only [SV.ren, SV.den, SV.denL_ren hj l (by simpa [SV.keys] using h)]
  | .tup l, h => by simp only [SV.ren, SV.den, SV.denL_ren hj l (by simpa [SV.keys] using h)]
  | .fn _ a c, h => by
    simp only [SV.keys, List.mem_append] at h
    simp only [SV.ren, SV.den, SV.denL_ren hj a (fun k hk => h k (.inl hk)), SV.denL_ren hj c (fun k hk => h k (.inr hk))]
  | .int .., _ => by simp [SV.ren, SV.den]
  | .bool _, _ => by simp [SV.ren, SV.den]
  | .lb _, _ => by simp [SV.ren, SV.den]
  | .str _, _ => by simp [SV.ren, SV.den]
  | .nils, _ => by simp [SV.ren, SV.den]
  | .dat _, _ => by simp [SV.ren, SV.den]
  | .elt .., _ => by simp [SV.ren, SV.den]
  | .nilp, _ => by simp [SV.ren, SV.den]
  | .nilf, _ => by simp [SV.ren, SV.den]
  | .undef, _ => by simp [SV.ren, SV.den]
  | .junk _, _ => by simp [SV.ren, SV.den, hj]
  | .raw _, _ => by simp [SV.ren, SV.den]
theorem SV.denL_ren {ρ : Nat → Nat} {E E' : Env} (hj : E'.j = E.j) : ∀ l : List SV, (∀ k, k ∈ SV.keysL l → Ren ρ E E' k) → SV.denL E' (SV.renL ρ l) = SV.denL E l
  | [], _ => by simp [SV.renL, SV.denL]
  | x :: r, h => by
    simp only [SV.keysL, List.mem_append] at h
    simp only [SV.renL, SV.denL, SV.den_ren hj x (fun k hk => h k (.inl hk)), SV.denL_ren hj r (fun k hk => h k (.inr hk))]
end

mutual
theorem SV.ok_ren {ρ : Nat → Nat} {H : HV} : ∀ x : SV, x.Ok H → (x.ren ρ).Ok H
  | .dat _, h => by simpa only [SV.ren, SV.Ok] using h
  | .elt .., h => by simpa only [SV.ren, SV.Ok] using h
  | .agg l, h => by simp only [SV.ren, SV.Ok] at h ⊢; exact SV.okL_ren l h
  | .tup l, h => by simp only [SV.ren, SV.Ok] at h ⊢; exact SV.okL_ren l h
  | .fn _ a c, h => by simp only [SV.ren, SV.Ok] at h ⊢; exact ⟨SV.okL_ren a h.1, SV.okL_ren c h.2⟩
  | .int .., _ => by simp [SV.ren, SV.Ok]
  | .bool _, _ => by simp [SV.ren, SV.Ok]
  | .lb _, _ => by simp [SV.ren, SV.Ok]
  | .str _, _ => by simp [SV.ren, SV.Ok]
  | .nils, _ => by simp [SV.ren, SV.Ok]
  | .vec _, _ => by simp [SV.ren, SV.Ok]
  | .ptr .., _ => by simp [SV.ren, SV.Ok]
  | .velt .., _ => by simp [SV.ren, SV.Ok]
  | .view .., _ => by simp [SV.ren, SV.Ok]
  | .nilp, _ => by simp [SV.ren, SV.Ok]
  | .nilf, _ => by simp [SV.ren, SV.Ok]
  | .mapp _, _ => by simp [SV.ren, SV.Ok]
  | .undef, _ => by simp [SV.ren, SV.Ok]
  | .junk _, _ => by simp [SV.ren, SV.Ok]
  | .raw _, _ => by simp [SV.ren, SV.Ok]
theorem SV.okL_ren {ρ : Nat → Nat} {H : HV} : ∀ l : List SV, SV.OkL H l → SV.OkL H (SV.renL ρ l)
  | [], _ => by simp [SV.renL, SV.OkL]
  | x :: r, h => by simp only [SV.renL, SV.OkL] at h ⊢; exact ⟨SV.ok_ren x h.1, SV.okL_ren r h.2⟩
end

theorem OOk.ren {C : Ctx} {ρ : Nat → Nat} {E E' : Env} {H : HV} {w : World} {k : Nat} {o : OBlk} (hj : E'.j = E.j) (h : OOk C E H w k o) (hk : Ren ρ E E' k) (ho : ∀ j, j ∈ o.keys → Ren ρ E E' j)
    (hinj : ∀ es, o = .map es → KeysOk es → KeysOk (es.map fun e => (e.1.ren ρ, e.2.ren ρ))) : OOk C E' H w (ρ k) (o.ren ρ) := by
  obtain ⟨k1, k2⟩ := hk
  cases o with
  | cells t cs =>
    obtain ⟨a, b, c, d⟩ := h
    exact ⟨by rw [k1]; exact a, by rw [k1, SV.denL_ren hj cs ho]; exact b, by rw [k1]; exact c, SV.okL_ren cs d⟩
  | pub d => exact ⟨by rw [k2]; exact h.1, h.2⟩
  | map es =>
    obtain ⟨a, b, ⟨en, cl, hh, hm⟩, c, d⟩ := h
    refine ⟨by rw [k1]; exact a, by rw [k1]; exact b, ⟨en, cl, by rw [k1]; exact hh, hm.trans (List.Perm.of_eq ?_)⟩, ?_, hinj es rfl d⟩
    · rw [List.map_map]
      apply List.map_congr_left
      intro e he
      simp only [OBlk.keys, List.mem_flatMap, List.mem_append] at ho
      simp only [Function.comp, SV.den_ren hj e.1 (fun j hj => ho j ⟨e, he, .inl hj⟩), SV.den_ren hj e.2 (fun j hj => ho j ⟨e, he, .inr hj⟩)]
    · intro e he
      obtain ⟨x, hx, rfl⟩ := List.mem_map.1 he
      exact ⟨SV.ok_ren _ (c x hx).1, SV.ok_ren _ (c x hx).2⟩
  | arr e d =>
    obtain ⟨hd, sz, rows, rfl, hv, how, hl, hk2, hx⟩ := h
    exact ⟨hd, sz, rows, rfl, by rw [k2]; exact hv, how, hl, hk2, fun a c hc => by
      obtain ⟨p, q⟩ := hx a c hc
      exact ⟨by rw [k1]; exact p, by rw [k1]; exact q⟩⟩

theorem keysOk_ren {ρ : Nat → Nat} {es : List (SV × SV)} (h : KeysOk es) : KeysOk (es.map fun e => (e.1.ren ρ, e.2.ren ρ)) := by
  refine ⟨fun e he => ?_, ?_⟩
  · obtain ⟨x, hx, rfl⟩ := List.mem_map.1 he
    obtain ⟨k, n, hk⟩ := h.1 x hx
    exact ⟨k, n, by simp [hk, SV.ren]⟩
  · rw [List.pairwise_map]
    refine h.2.imp_of_mem ?_
    intro a b ha hb hne
    obtain ⟨k, n, hk⟩ := h.1 a ha
    obtain ⟨k', n', hk'⟩ := h.1 b hb
    rw [hk, hk'] at hne
    simpa [hk, hk', SV.ren] using hne
def meet : List Nat → List Nat → List Nat
  | acc, [] => acc
  | acc, k :: r => match acc.contains k with
    | true => meet acc r
    | false => meet (acc ++ [k]) r

def idxOf (k : Nat) : Nat → List Nat → Nat
  | n, [] => n
  | n, x :: r => match Nat.beq x k with
    | true => n
    | false => idxOf k (n + 1) r

theorem meet_mem {k : Nat} : ∀ {l acc : List Nat}, k ∈ acc ∨ k ∈ l → k ∈ meet acc l
  | [], acc, h => by simpa [meet] using h
  | x :: r, acc, h => by
    simp only [meet]
    split
    · rename_i hx
      refine meet_mem ?_
      rcases h with h | h
      · exact .inl h
      · rcases List.mem_cons.1 h with rfl | h
        · exact .inl (by simpa using hx)
        · exact .inr h
    · refine meet_mem ?_
      rcases h with h | h
      · exact .inl (List.mem_append_left _ h)
      · rcases List.mem_cons.1 h with rfl | h
        · exact .inl (by simp)
        · exact .inr h

theorem idxOf_spec {k : Nat} : ∀ {l : List Nat} {n : Nat}, k ∈ l → ∃ i, idxOf k n l = n + i ∧ l[i]? = some k
  | [], _, h => by cases h
  | x :: r, n, h => by
    simp only [idxOf]
    cases hx : Nat.beq x k with
    | true => exact ⟨0, by simp, by simp [Nat.eq_of_beq_eq_true hx]⟩
    | false =>
      have hne : x ≠ k := fun e => by subst e; rw [Nat.beq_refl] at hx; cases hx
      rcases List.mem_cons.1 h with h | h
      · exact absurd h.symm hne
      · obtain ⟨i, h1, h2⟩ := idxOf_spec (n := n + 1) h
        exact ⟨i + 1, by simp only; omega, by simpa using h2⟩
def walkK (m : Mem) : Nat → Nat → List Nat → List Nat
  | 0, _, acc => acc
  | n + 1, i, acc => match acc[i]? with
    | none => acc
    | some k => walkK m n (i + 1) (meet acc (match m.get k with | some o => o.keys | none => []))

theorem walkK_mem {m : Mem} {k : Nat} : ∀ {n i : Nat} {acc : List Nat}, k ∈ acc → k ∈ walkK m n i acc
  | 0, _, _, h => h
  | n + 1, i, acc, h => by
    simp only [walkK]
    split
    · exact h
    · exact walkK_mem (meet_mem (.inl h))

def Conf.allKeys (c : Conf) : List Nat :=
  meet (walkK c.mem (c.mem.length + 4) 0 (meet [] (SV.keysL c.top.tmps ++ (c.rest.flatMap fun f => SV.keysL f.tmps)))) (Mem.named c.mem)

def renWith (ρ : Nat → Nat) (c : Conf) : Conf :=
  ⟨{ c.top with tmps := SV.renL ρ c.top.tmps }, c.rest.map fun f => { f with tmps := SV.renL ρ f.tmps }, c.mem.map fun e => (ρ e.1, e.2.ren ρ)⟩
def insM (x : Nat × OBlk) : Mem → Mem
  | [] => [x]
  | y :: r => match Nat.ble x.1 y.1 with
    | true => x :: y :: r
    | false => y :: insM x r

def sortM : Mem → Mem
  | [] => []
  | x :: r => insM x (sortM r)

theorem insM_perm (x : Nat × OBlk) : ∀ m : Mem, (insM x m).Perm (x :: m)
  | [] => List.Perm.refl _
  | y :: r => by
    simp only [insM]
    split
    · exact List.Perm.refl _
    · exact ((insM_perm x r).cons y).trans (List.Perm.swap _ _ _)

theorem sortM_perm : ∀ m : Mem, (sortM m).Perm m
  | [] => List.Perm.refl _
  | x :: r => (insM_perm x _).trans ((sortM_perm r).cons x)

theorem Good.perm {C : Ctx} {m m' : Mem} {E : Env} {H : HV} {w : World} (g : Good C m E H w) (h : m'.Perm m) : Good C m' E H w :=
  ⟨g.below, g.ext, g.fresh, g.cell, fun k o hk => g.own k o (h.subset hk), (h.pairwise_iff (fun {a b} (h : a.1 ≠ b.1) => h.symm)).2 g.keys, fun x y hx hy => g.apart x y (h.subset hx) (h.subset hy), g.fix⟩

def sortC (c : Conf) : Conf := { c with mem := sortM c.mem }

theorem sortC_sound {P : Program} {C : Ctx} {R : Value → World → Prop} {c : Conf} (h : Runs P C (sortC c) R) : Runs P C c R :=
  fun E H w g ok => h E H w (g.perm (sortM_perm _)) ok
def newKy (ks : List Nat) (k : Nat) : Nat :=
  match Nat.ble PIN k with
  | true => k
  | false => idxOf k 0 ks
def renC (c : Conf) : Conf :=
  match Nat.blt c.allKeys.length PIN with
  | true => renWith (newKy c.allKeys) c
  | false => c
noncomputable def headC {β : Type _} (P : Program) (c : Conf) (k : Conf → β) : β := nz (renC (fgt P c)) fun c => nz (sortC c) k

theorem renC_sound {P : Program} {C : Ctx} {R : Value → World → Prop} {c : Conf} (h : Runs P C (renC c) R) : Runs P C c R := by
  unfold renC at h
  cases hsz : Nat.blt c.allKeys.length PIN with
  | false => rw [hsz] at h; exact h
  | true =>
  rw [hsz] at h
  have hsz : c.allKeys.length < PIN := by simpa [Nat.blt_eq] using hsz
  intro E H w g ok
  have spec : ∀ k, k ∈ c.allKeys → ∃ i, idxOf k 0 c.allKeys = i ∧ c.allKeys[i]? = some k := fun k hk => by
    obtain ⟨i, h1, h2⟩ := idxOf_spec (n := 0) hk
    exact ⟨i, by omega, h2⟩
  have all : ∀ k, k ∈ SV.keysL c.top.tmps ∨ (∃ f, f ∈ c.rest ∧ k ∈ SV.keysL f.tmps) ∨ k ∈ Mem.named c.mem → k ∈ c.allKeys := fun k hk => by
    rcases hk with hk | ⟨f, hf, hk⟩ | hk
    · exact meet_mem (.inl (walkK_mem (meet_mem (.inr (List.mem_append_left _ hk)))))
    · exact meet_mem (.inl (walkK_mem (meet_mem (.inr (List.mem_append_right _ (List.mem_flatMap.2 ⟨f, hf, hk⟩))))))
    · exact meet_mem (.inr hk)
  let E' : Env := ⟨fun i => if PIN ≤ i then E.b i else E.b (c.allKeys.getD i 0), fun i => if PIN ≤ i then E.v i else E.v (c.allKeys.getD i 0), E.j⟩
  let ρ : Nat → Nat := newKy c.allKeys
  have cas : ∀ k, k ∈ c.allKeys → (PIN ≤ k ∧ ρ k = k) ∨ (k < PIN ∧ ρ k < PIN ∧ ρ k = idxOf k 0 c.allKeys ∧ c.allKeys[ρ k]? = some k) := fun k hk => by
    rcases Nat.lt_or_ge k PIN with hl | hl
    · obtain ⟨i, h1, h2⟩ := spec k hk
      have e : ρ k = i := by
        have : Nat.ble PIN k = false := by
          cases hb : Nat.ble PIN k with
          | false => rfl
          | true => have := Nat.le_of_ble_eq_true hb; omega
        simp only [ρ, newKy, this, h1]
      have hi := (List.getElem?_eq_some_iff.1 h2).1
      exact .inr ⟨hl, by omega, by rw [e, h1], by rw [e]; exact h2⟩
    · exact .inl ⟨hl, by simp only [ρ, newKy, Nat.ble_eq_true_of_le hl]⟩
  have ren : ∀ k, k ∈ c.allKeys → Ren ρ E E' k := fun k hk => by
    rcases cas k hk with ⟨h1, h2⟩ | ⟨h1, h2, _, h3⟩
    · simp only [Ren, E', h2, if_pos h1, and_self]
    · simp only [Ren, E', if_neg (Nat.not_le.2 h2), List.getD_eq_getElem?_getD, h3, Option.getD_some, and_self]
  have inj : ∀ k j, k ∈ c.allKeys → j ∈ c.allKeys → ρ k = ρ j → k = j := fun k j hk hj e => by
    rcases cas k hk with ⟨h1, h2⟩ | ⟨h1, h2, _, h3⟩ <;> rcases cas j hj with ⟨g1, g2⟩ | ⟨g1, g2, _, g3⟩
    · rw [h2, g2] at e; exact e
    · omega
    · omega
    · rw [e, g3] at h3; exact (Option.some.inj h3).symm
  have named : ∀ k o, (k, o) ∈ c.mem → k ∈ c.allKeys ∧ ∀ j, j ∈ o.keys → j ∈ c.allKeys := fun k o hm => by
    refine ⟨all k (.inr (.inr ?_)), fun j hj => all j (.inr (.inr ?_))⟩
    · simp only [Mem.named, List.mem_flatMap]; exact ⟨_, hm, List.mem_cons_self⟩
    · simp only [Mem.named, List.mem_flatMap]; exact ⟨_, hm, List.mem_cons_of_mem _ hj⟩
  have gd : Good C (c.mem.map fun e => (ρ e.1, e.2.ren ρ)) E' H w := by
    refine ⟨g.below, g.ext, g.fresh, g.cell, fun k o hko => ?_, ?_, fun x y hx hy hne hlx hly => ?_, g.fix.keep (fun k hk => by simp only [E', if_pos hk]) fun _ _ h _ => h⟩
    · obtain ⟨e, he, h1⟩ := List.mem_map.1 hko
      simp only [Prod.mk.injEq] at h1
      obtain ⟨rfl, rfl⟩ := h1
      obtain ⟨n1, n2⟩ := named e.1 e.2 he
      exact (g.own e.1 e.2 he).ren (E' := E') (show E'.j = E.j from rfl) (ren _ n1) (fun j hj => ren j (n2 j hj)) (fun es _ hk => keysOk_ren hk)
    · rw [List.pairwise_map]
      refine g.keys.imp_of_mem ?_
      intro a b ha hb hne e
      exact hne (inj _ _ (named a.1 a.2 ha).1 (named b.1 b.2 hb).1 e)
    · obtain ⟨a, ha, h1⟩ := List.mem_map.1 hx
      obtain ⟨b, hb, h2⟩ := List.mem_map.1 hy
      subst h1; subst h2
      simp only at hne hlx hly ⊢
      rw [(ren a.1 (named a.1 a.2 ha).1).1, (ren b.1 (named b.1 b.2 hb).1).1]
      have lies : ∀ o : OBlk, (o.ren ρ).Lies → o.Lies := fun o h => by cases o <;> exact h
      exact g.apart a b ha hb (fun e => hne (by rw [e])) (lies _ hlx) (lies _ hly)
  have hr := h E' H w gd ⟨SV.okL_ren _ ok.1, fun f hf => by
    obtain ⟨f', hf', rfl⟩ := List.mem_map.1 hf
    exact SV.okL_ren _ (ok.2 f' hf')⟩
  have e1 : (renWith ρ c).top.den E' = c.top.den E := by
    simp only [renWith, SFrm.den]
    rw [SV.denL_ren (E := E) (E' := E') rfl _ fun k hk => ren k (all k (.inl hk))]
  have e2 : (renWith ρ c).rest.map (SFrm.den E') = c.rest.map (SFrm.den E) := by
    simp only [renWith, List.map_map]
    apply List.map_congr_left
    intro f hf
    simp only [Function.comp, SFrm.den]
    rw [SV.denL_ren (E := E) (E' := E') rfl _ fun k hk => ren k (all k (.inr (.inl ⟨f, hf, hk⟩)))]
  rw [e1, e2] at hr
  exact hr

theorem headC_sound {P : Program} {C : Ctx} {R : Value → World → Prop} {c : Conf} (h : (headC P c Tree.leaf).holds P C R) : Runs P C c R := by
  simp only [headC, nz_eq] at h
  exact fgt_sound (renC_sound (sortC_sound h))

/-! An empty slice is a row of one's own. -/
def vecIn (K : Nat) (e : TypeId) (sz : Nat) (blk : Option Nat) (off : Nat) (c : Conf) : Option Conf :=
  match c.fresh K with
  | false => none
  | true => match blk with
    | none => match c.top.tmps[off]? with
      | some .nils => some ⟨{ c.top with tmps := c.top.tmps.set off (.vec K) }, c.rest, (K, .arr e (.slc none sz [])) :: c.mem⟩
      | _ => none
    | some b => match c.mem.get b with
      | some (.cells t cs) => match cs[off]? with
        | some .nils => some ⟨c.top, c.rest, (K, .arr e (.slc none sz [])) :: c.mem.set b (.cells t (cs.set off (.vec K)))⟩
        | _ => none
      | _ => none

theorem denL_setVec {E : Env} {K : Nat} {l : List SV} {i : Nat} (h : l[i]? = some .nils) (hv : E.v K = (none, 0)) : SV.denL E (l.set i (.vec K)) = SV.denL E l := by
  rw [denL_set, SV.denL_eq]
  apply List.ext_getElem?
  intro j
  by_cases hj : j = i
  · subst hj
    rw [List.getElem?_set_self (by have := (List.getElem?_eq_some_iff.1 h).1; simpa using this)]
    simp [h, SV.den, hv, hval]
  · rw [List.getElem?_set_ne (Ne.symm hj)]

theorem vecIn_sound {P : Program} {C : Ctx} {R : Value → World → Prop} {K : Nat} {e : TypeId} {sz : Nat} {blk : Option Nat} {off : Nat} {c c' : Conf} (hc : vecIn K e sz blk off c = some c') (h : Runs P C c' R) : Runs P C c R := by
  intro E H w g ok
  unfold vecIn at hc
  split at hc
  · cases hc
  · rename_i hf
    obtain ⟨f1, f2, f3⟩ := fresh_spec hf
    have ha := E.agree_setV K 0 (none, 0)
    have hv : (E.setV K 0 (none, 0)).v K = (none, 0) := by simp [Env.setV]
    have cons : ∀ {m : Mem}, Good C m E H w → Mem.has K m = false → Good C ((K, .arr e (.slc none sz [])) :: m) (E.setV K 0 (none, 0)) H w := fun {m} gm hm =>
      Good.cons gm hm ha (Below.refl _ _) ⟨_, _, _, rfl, hv, ⟨by simp [flat], .inl ⟨rfl, rfl⟩⟩, by simp, by simp, by simp⟩ (fun hl => by simp [OBlk.Lies, D.hd] at hl)
    have hrest : c.rest.map (SFrm.den (E.setV K 0 (none, 0))) = c.rest.map (SFrm.den E) := rest_agree ha f3
    split at hc
    · split at hc
      · rename_i hn
        cases hc
        have hr := h (E.setV K 0 (none, 0)) H w (cons g f1) ⟨okL_putS (dst := some off) ok.1 (by simp [SV.Ok]), ok.2⟩
        simp only at hr
        rw [hrest] at hr
        have e1 : SFrm.den (E.setV K 0 (none, 0)) { c.top with tmps := c.top.tmps.set off (.vec K) } = c.top.den E := by
          simp only [SFrm.den]
          rw [denL_setVec hn hv, SV.denL_agree ha _ f2]
        rw [e1] at hr
        exact hr
      · cases hc
    · rename_i b
      split at hc
      · rename_i t cs hg
        split at hc
        · rename_i hn
          cases hc
          -- the block holds what it held
          have hmem := Mem.get_mem hg
          have g1 := cons g f1
          have hkb : b ≠ K := fun e => (Mem.has_key f1 _ hmem).1 (by rw [e])
          have hcs : SV.hasL K cs = false := (Mem.has_key f1 _ hmem).2
          have g2 : Good C ((K, .arr e (.slc none sz [])) :: c.mem.set b (.cells t (cs.set off (.vec K)))) (E.setV K 0 (none, 0)) H w := by
            have hspec := Mem.set_spec (o' := .cells t (cs.set off (.vec K))) g.keys hg
            refine ⟨g1.below, g1.ext, g1.fresh, g1.cell, fun k o hko => ?_, ?_, fun x y hx hy hne hlx hly => ?_, g1.fix⟩
            · rcases List.mem_cons.1 hko with hk | hk
              · exact g1.own k o (by rw [hk]; exact List.mem_cons_self)
              · rcases hspec k o hk with ⟨rfl, rfl⟩ | ⟨hne, hm⟩
                · obtain ⟨a1, a2, a3, a4⟩ := g1.own k _ (List.mem_cons_of_mem _ hmem)
                  exact ⟨a1, by rw [denL_setVec hn hv]; exact a2, a3, okL_putS (dst := some off) a4 (by simp [SV.Ok])⟩
                · exact g1.own k o (List.mem_cons_of_mem _ hm)
            · rw [pairwise_keys]
              have := g1.keys
              rw [pairwise_keys] at this
              simpa [Mem.set_keys] using this
            · have old : ∀ z : Nat × OBlk, z ∈ (K, OBlk.arr e (.slc none sz [])) :: c.mem.set b (.cells t (cs.set off (.vec K))) → z.2.Lies → ∃ o, (z.1, o) ∈ (K, OBlk.arr e (.slc none sz [])) :: c.mem ∧ o.Lies := by
                intro z hz hl
                rcases List.mem_cons.1 hz with rfl | hz
                · exact ⟨_, List.mem_cons_self, hl⟩
                · rcases hspec z.1 z.2 hz with ⟨h1, h2⟩ | ⟨_, hm⟩
                  · exact ⟨.cells t cs, List.mem_cons_of_mem _ (by rw [h1]; exact hmem), trivial⟩
                  · exact ⟨_, List.mem_cons_of_mem _ hm, hl⟩
              obtain ⟨ox, hx1, hx2⟩ := old x hx hlx
              obtain ⟨oy, hy1, hy2⟩ := old y hy hly
              exact g1.apart (x.1, ox) (y.1, oy) hx1 hy1 hne hx2 hy2
          have hr := h (E.setV K 0 (none, 0)) H w g2 ok
          simp only at hr
          rw [hrest] at hr
          have e1 : SFrm.den (E.setV K 0 (none, 0)) c.top = c.top.den E := by
            simp only [SFrm.den]
            rw [SV.denL_agree ha _ f2]
          rw [e1] at hr
          exact hr
        · cases hc
      · cases hc

end Sx
end
section
namespace Sx
open Go RowKit
def brA (f : SV → Tree) (d : SV) : List (Bool × SV) → Tree
  | [] => f d
  | (b, v) :: r => .br b (f v) (brA f d r)
def keyFor (c : Conf) (dst : Option Tmp) : Nat → Nat → Option Nat
  | 0, _ => none
  | n + 1, d => match c.fresh (dstKey d dst) with
    | true => some (dstKey d dst)
    | false => keyFor c dst n (d + 10)

theorem keyFor_spec {c : Conf} {dst : Option Tmp} : ∀ {n d key : Nat}, keyFor c dst n d = some key → c.fresh key = true
  | 0, _, _, h => by cases h
  | n + 1, d, key, h => by
    simp only [keyFor] at h
    split at h
    · rename_i hc; cases h; exact hc
    · exact keyFor_spec h

section
variable {β : Type _}
noncomputable def nzR (l : List SFrm) (k : List SFrm → β) : β :=
  List.rec (motive := fun _ => (List SFrm → β) → β) (fun k => k []) (fun x _ ih k => nzL SV.nz2 x.tmps fun t => ih fun r => k (⟨x.fn, x.ri, x.await, x.todo, t⟩ :: r)) l k
theorem nzR_eq : ∀ (l : List SFrm) (k : List SFrm → β), nzR l k = k l
  | [], _ => rfl
  | x :: r, k => by
    show nzL SV.nz2 x.tmps (fun t => nzR r fun r' => k (⟨x.fn, x.ri, x.await, x.todo, t⟩ :: r')) = _
    rw [nzL_eq SV.nz2_eq, nzR_eq r]
end
noncomputable def leafR (c : Conf) : Tree := nzR c.rest fun r => .leaf ⟨c.top, r, c.mem⟩
theorem leafR_eq : leafR = Tree.leaf := by funext c; simp only [leafR, nzR_eq]
theorem headR_sound {P : Program} {C : Ctx} {R : Value → World → Prop} {c : Conf} (h : (headC P c leafR).holds P C R) : Runs P C c R := headC_sound (by rwa [leafR_eq] at h)
def unroll (c : Conf) : Conf :=
  match c.top.todo with
  | .inLoop b :: k => { c with top := { c.top with todo := .code b :: .inLoop b :: k } }
  | _ => c
noncomputable def stepC (P : Program) (cs : Ctrs) (U : FuncId → Bool) (ih : Conf → Tree) (c : Conf) : Tree :=
  let s := c.top
  match s.ri with
  | some (_, []) => nz { c with top := { s with ri := none } } ih
  | some (ops, i :: l) =>
    match ops[i]? with
    | none => ih { c with top := { s with ri := some (ops, l) } }
    | some o =>
      match guardR ops o s.tmps with
      | .bad => .stuck
      | .no => ih { c with top := { s with ri := some (ops, l), tmps := putS s.tmps o.dst .undef } }
      | .fork t b => .br b (ih { c with top := { s with tmps := s.tmps.set t (.lb true) } }) (ih { c with top := { s with tmps := s.tmps.set t (.lb false) } })
      | .yes =>
        let quick := match opr P (evS s.tmps) c.mem 0 o.op with
          | .val ps v _ => needs ps (ih { c with top := { s with ri := some (ops, l), tmps := putS s.tmps o.dst v } })
          | _ => .stuck
        let plain := depthK c.rest 1 fun d => match keyFor c o.dst 40 d with
          | some key => match opr P (evS s.tmps) c.mem key o.op with
            | .val ps v m' => needs ps (ih { c with top := { s with ri := some (ops, l), tmps := putS s.tmps o.dst v }, mem := m' })
            | .all ps g => needs ps (.all fun hs => ih { c with top := { s with ri := some (ops, l), tmps := putS s.tmps o.dst (g (hs 0)).1 }, mem := (g (hs 0)).2 })
            | .bad => .stuck
          | none => .stuck
        match o.op with
        | .pick (.tmp t) _ _ =>
          match s.tmps[t]? with
          | some (.bool b) => .br b (ih { c with top := { s with tmps := s.tmps.set t (.lb true) } }) (ih { c with top := { s with tmps := s.tmps.set t (.lb false) } })
          | _ => quick
        | .store t a x =>
          match storeR P c.mem t (evS s.tmps a) (evS s.tmps x) with
          | some (ps, m') => needs ps (ih { c with top := { s with ri := some (ops, l), tmps := putS s.tmps o.dst .undef }, mem := m' })
          | none => .stuck
        | .call cl =>
          match calleeOf (evS s.tmps) cl.callee with
          | some (f, first, captured) =>
            let args := first ++ cl.args.toList.map (evS s.tmps) ++ captured
            match cs.find f with
            | some ctr =>
              depthK c.rest 1 fun d => match keyFor c o.dst 40 d with
              | some key =>
                match ctr args key c.mem with
                | .val ps v m' => needs ps (ih { c with top := { s with ri := some (ops, l), tmps := putS s.tmps o.dst v }, mem := m' })
                | .all ps g => needs ps (.all fun hs => ih { c with top := { s with ri := some (ops, l), tmps := putS s.tmps o.dst (g (hs 0)).1 }, mem := (g (hs 0)).2 })
                | .bad => .stuck
              | none => .stuck
            | none =>
              match P.funcs[f]? with
              | some fn => match fn.body with
                | some body => match fn.name == "runtime.NumGoroutine" with
                  | true => .stuck
                  | false => nz { top := ⟨f, none, none, [.code body], args ++ List.replicate (fn.ntmps - args.length) .undef⟩, rest := { s with ri := some (ops, l), await := o.dst } :: c.rest, mem := c.mem } ih
                | none => .stuck
              | none => .stuck
          | none => match quickOp o.op with
            | true => quick
            | false => plain
        | .lookup t x i ok =>
          match lookR P c.mem t (evS s.tmps x) (evS s.tmps i) ok with
          | some (al, d) => brA (fun v => ih { c with top := { s with ri := some (ops, l), tmps := putS s.tmps o.dst v } }) d al
          | none => .stuck
        | _ => match quickOp o.op with
          | true => quick
          | false => plain
  | none =>
    match s.todo with
    | [] => retC P (fun c => nz c ih) c
    | .code .ret :: _ => retC P (fun c => nz c ih) c
    | .code .skip :: k => ih { c with top := { s with todo := k } }
    | .code (.label _) :: k => ih { c with top := { s with todo := k } }
    | .inBlock _ :: k => ih { c with top := { s with todo := k } }
    | .inScope _ :: k => ih { c with top := { s with todo := k } }
    | .code (.scope b) :: k => ih { c with top := { s with todo := .code b :: .inScope b :: k } }
    | .code (.seq a b) :: k => ih { c with top := { s with todo := .code a :: .code b :: k } }
    | .code (.cond x a b) :: k =>
      match evS s.tmps x with
      | .lb true => ih { c with top := { s with todo := .code a :: k } }
      | .lb false => ih { c with top := { s with todo := .code b :: k } }
      | .bool t => .br t (ih { c with top := { s with todo := .code a :: k } }) (ih { c with top := { s with todo := .code b :: k } })
      | _ => .stuck
    | .code (.block id b) :: k => ih { c with top := { s with todo := .code b :: .inBlock id :: k } }
    | .code (.loop b) :: k => match U s.fn with
      | true => ih { c with top := { s with todo := .code b :: .inLoop b :: k } }
      | false => headC P { c with top := { s with todo := .inLoop b :: k } } leafR
    | .inLoop b :: k => match U s.fn with
      | true => ih { c with top := { s with todo := .code b :: .inLoop b :: k } }
      | false => headC P { c with top := { s with todo := .inLoop b :: k } } leafR
    | .code (.exit id) :: k => match exitTo id k with
      | some k' => ih { c with top := { s with todo := k' } }
      | none => .stuck
    | .code (.goto n) :: k => match gotoIn n k with
      | some k' => ih { c with top := { s with todo := k' } }
      | none => .stuck
    | .code (.region _ ops false) :: k => match calmOps ops with
      | true => ih { c with top := { s with ri := some (ops, List.range ops.size), todo := k } }
      | false => .stuck
    | .code (.region _ ops true) :: k => drawC P cs ih c ops k
    | _ => .stuck
noncomputable def execU (P : Program) (cs : Ctrs) (U : FuncId → Bool) (n : Nat) : Conf → Tree :=
  Nat.rec (motive := fun _ => Conf → Tree) (fun _ => .stuck) (fun _ ih c => stepC P cs U ih c) n

noncomputable def exec (P : Program) (cs : Ctrs) (n : Nat) : Conf → Tree := execU P cs (fun _ => false) n

end Sx
end
section
namespace Sx
open Go RowKit

section
variable {P : Program} {C : Ctx} {R : Value → World → Prop} {cs : Ctrs}

theorem after_of_holds {ih : Conf → Tree} (hih : ∀ c, (ih c).holds P C R → Runs P C c R) {r : OpR} {c : Conf} {ops : Array Oper} {l : List Nat} {dst : Option Tmp}
    (h : (match r with
      | .val ps v m' => needs ps (ih { c with top := { c.top with ri := some (ops, l), tmps := putS c.top.tmps dst v }, mem := m' })
      | .all ps g => needs ps (.all fun hs => ih { c with top := { c.top with ri := some (ops, l), tmps := putS c.top.tmps dst (g (hs 0)).1 }, mem := (g (hs 0)).2 })
      | .bad => .stuck : Tree).holds P C R) : r.After P C R c ops l dst := by
  cases r with
  | val ps v m' =>
    obtain ⟨h1, h2⟩ := needs_holds h
    exact ⟨h1, hih _ h2⟩
  | all ps g =>
    obtain ⟨h1, h2⟩ := needs_holds h
    exact ⟨h1, fun hs => hih _ (h2 fun _ => hs)⟩
  | bad => exact h.elim

theorem set_same_den (E : Env) {tmps : List SV} {t : Nat} {b : Bool} (ht : tmps[t]? = some (.bool b)) : SV.denL E (tmps.set t (.lb b)) = SV.denL E tmps := by
  rw [denL_set]
  simp only [SV.den]
  rw [SV.denL_eq]
  apply List.ext_getElem?
  intro i
  by_cases hi : i = t
  · subst hi
    have hlt : i < tmps.length := (List.getElem?_eq_some_iff.1 ht).1
    rw [List.getElem?_set_self (by simpa using hlt)]
    simp [ht, SV.den]
  · rw [List.getElem?_set_ne (Ne.symm hi)]

theorem ok_set_lb {H : HV} {tmps : List SV} (h : SV.OkL H tmps) (t : Nat) (b : Bool) : SV.OkL H (tmps.set t (.lb b)) :=
  okL_putS (dst := some t) h (by simp [SV.Ok])
theorem runs_fork {c : Conf} {t : Nat} {b : Bool} (ht : c.top.tmps[t]? = some (.bool b))
    (h1 : b = true → Runs P C { c with top := { c.top with tmps := c.top.tmps.set t (.lb true) } } R)
    (h2 : b = false → Runs P C { c with top := { c.top with tmps := c.top.tmps.set t (.lb false) } } R) : Runs P C c R := by
  cases b with
  | true => exact runs_top (h1 rfl) rfl rfl (fun H ok => ok_set_lb ok.1 t true) (fun ds ro E w T h => by simp only [SFrm.dn, set_same_den E ht] at h ⊢; exact h)
  | false => exact runs_top (h2 rfl) rfl rfl (fun H ok => ok_set_lb ok.1 t false) (fun ds ro E w T h => by simp only [SFrm.dn, set_same_den E ht] at h ⊢; exact h)

theorem brA_holds {f : SV → Tree} {d : SV} : ∀ {l : List (Bool × SV)}, (brA f d l).holds P C R → (f (pickA d l)).holds P C R
  | [], h => h
  | (true, v) :: r, h => h.1 rfl
  | (false, v) :: r, h => brA_holds (l := r) (h.2 rfl)

theorem step_sound (hcs : cs.Ok P) {U : FuncId → Bool} {ih : Conf → Tree} (hih : ∀ c, (ih c).holds P C R → Runs P C c R) (c : Conf) (h : (stepC P cs U ih c).holds P C R) : Runs P C c R := by
  obtain ⟨⟨fn, ri, aw, todo, tmps⟩, rest, mem⟩ := c
  cases ri with
  | some x =>
    obtain ⟨ops, l⟩ := x
    cases l with
    | nil =>
      simp only [stepC, nz_eq] at h
      exact runs_top (hih _ h) rfl rfl (fun H ok => ok.1) (fun ds ro E w T h => ⟨rfl, h⟩)
    | cons i l =>
      simp only [stepC] at h
      cases ho : ops[i]? with
      | none =>
        simp only [ho] at h
        refine runs_top (hih _ h) rfl rfl (fun H ok => ok.1) (fun ds ro E w T h => ?_)
        simp only [SFrm.dn, CFrm.run, wpOps_cons] at h ⊢
        unfold wpOp
        simp only [ho]
        exact h
      | some o =>
        simp only [ho] at h
        cases hg : guardR ops o tmps with
        | bad => simp only [hg] at h; exact h.elim
        | no =>
          simp only [hg] at h
          refine runs_top (hih _ h) rfl rfl (fun H ok => okL_putS ok.1 (by simp [SV.Ok])) (fun ds ro E w T h => ?_)
          refine frm_no ho ((guardR_spec (E := E)).2.1 hg) ?_
          simp only [SFrm.dn] at h ⊢
          rw [← put_den] at h
          exact h
        | fork t b =>
          simp only [hg] at h
          exact runs_fork (t := t) (b := b) ((guardR_spec (E := ⟨fun _ => 0, fun _ => (none, 0), fun _ => .bool false⟩)).2.2 t b hg) (fun hb => hih _ (h.1 hb)) (fun hb => hih _ (h.2 hb))
        | yes =>
          simp only [hg] at h
          have plain : ∀ (key : Nat), Conf.fresh key ⟨⟨fn, some (ops, i :: l), aw, todo, tmps⟩, rest, mem⟩ = true →
              (opr P (evS tmps) mem key o.op).After P C R ⟨⟨fn, some (ops, i :: l), aw, todo, tmps⟩, rest, mem⟩ ops l o.dst → Runs P C ⟨⟨fn, some (ops, i :: l), aw, todo, tmps⟩, rest, mem⟩ R :=
            fun key hf ha => runs_opr rfl ho hg hf ha
          -- an operation that reads alone
          have quick : quickOp o.op = true → (match opr P (evS tmps) mem 0 o.op with
              | .val ps v _ => needs ps (ih ⟨⟨fn, some (ops, l), aw, todo, putS tmps o.dst v⟩, rest, mem⟩)
              | _ => .stuck : Tree).holds P C R → Runs P C ⟨⟨fn, some (ops, i :: l), aw, todo, tmps⟩, rest, mem⟩ R := by
            intro hq h
            split at h
            · rename_i ps v m' hr
              obtain ⟨h1, h2⟩ := needs_holds h
              have hr2 := hih _ h2
              intro E H w g ok
              obtain ⟨e1, e2⟩ := oprQ_spec (P := P) (o := o) (v := v) (ps := ps) g ok.1 (by simp only [oprQ, hq, if_true, hr]) h1
              have h3 := hr2 E H w g ⟨okL_putS ok.1 e2, ok.2⟩
              rw [stkRun_eq] at h3 ⊢
              simp only [SFrm.dn] at h3 ⊢
              rw [← put_den] at h3
              exact frm_op ho ((guardR_spec (E := E)).1 hg) (.inl e1) h3
            · exact h.elim
          have other : (depthK rest 1 fun d => match keyFor ⟨⟨fn, some (ops, i :: l), aw, todo, tmps⟩, rest, mem⟩ o.dst 40 d with
              | some key => match opr P (evS tmps) mem key o.op with
                | .val ps v m' => needs ps (ih ⟨⟨fn, some (ops, l), aw, todo, putS tmps o.dst v⟩, rest, m'⟩)
                | .all ps g => needs ps (.all fun hs => ih ⟨⟨fn, some (ops, l), aw, todo, putS tmps o.dst (g (hs 0)).1⟩, rest, (g (hs 0)).2⟩)
                | .bad => .stuck
              | none => .stuck : Tree).holds P C R → Runs P C ⟨⟨fn, some (ops, i :: l), aw, todo, tmps⟩, rest, mem⟩ R := by
            intro h
            rw [depthK_eq] at h
            split at h
            · rename_i key hkey
              exact plain _ (keyFor_spec hkey) (after_of_holds hih h)
            · exact h.elim
          have both : (match quickOp o.op with
              | true => (match opr P (evS tmps) mem 0 o.op with
                | .val ps v _ => needs ps (ih ⟨⟨fn, some (ops, l), aw, todo, putS tmps o.dst v⟩, rest, mem⟩)
                | _ => .stuck : Tree)
              | false => (depthK rest 1 fun d => match keyFor ⟨⟨fn, some (ops, i :: l), aw, todo, tmps⟩, rest, mem⟩ o.dst 40 d with
                | some key => match opr P (evS tmps) mem key o.op with
                  | .val ps v m' => needs ps (ih ⟨⟨fn, some (ops, l), aw, todo, putS tmps o.dst v⟩, rest, m'⟩)
                  | .all ps g => needs ps (.all fun hs => ih ⟨⟨fn, some (ops, l), aw, todo, putS tmps o.dst (g (hs 0)).1⟩, rest, (g (hs 0)).2⟩)
                  | .bad => .stuck
                | none => .stuck) : Tree).holds P C R → Runs P C ⟨⟨fn, some (ops, i :: l), aw, todo, tmps⟩, rest, mem⟩ R := by
            intro h
            cases hq : quickOp o.op with
            | true => rw [hq] at h; exact quick hq h
            | false => rw [hq] at h; exact other h
          split at h
          · rename_i t x y hop
            split at h
            · rename_i b ht
              exact runs_fork (t := t) (b := b) ht (fun hb => hih _ (h.1 hb)) (fun hb => hih _ (h.2 hb))
            · exact quick (by rw [hop]; rfl) h
          · rename_i t a x hop
            split at h
            · rename_i ps m' hst
              obtain ⟨h1, h2⟩ := needs_holds h
              have hr2 := hih _ h2
              intro E H w g ok
              obtain ⟨w', e1, e2, _⟩ := storeR_spec (P := P) g (ok_evS ok.1 x) hst h1
              have h3 := hr2 E H w' e2 ⟨okL_putS ok.1 (by simp [SV.Ok]), ok.2⟩
              rw [stkRun_eq] at h3 ⊢
              simp only [SFrm.dn] at h3 ⊢
              rw [← put_den] at h3
              refine frm_op ho ((guardR_spec (E := E)).1 hg) (.inr ⟨?_, rfl⟩) h3
              unfold execOp
              simp only [hop, Sem.run_bind]
              rw [den_evS, den_evS, e1]
              rfl
            · exact h.elim
          · rename_i cl hop
            split at h
            · rename_i f first captured hcal
              split at h
              · rename_i ctr hfind
                rw [depthK_eq] at h
                split at h
                · rename_i key hkey
                  exact runs_ctr rfl ho hg (keyFor_spec hkey) hop hcal (hcs _ (Ctrs.find_mem hfind)) (after_of_holds hih h)
                · exact h.elim
              · split at h
                · rename_i fn' hfn
                  split at h
                  · rename_i body hb
                    split at h
                    · exact h.elim
                    · rename_i hn
                      rw [nz_eq] at h
                      exact runs_in rfl ho hg hop hcal hfn hb (by simpa using hn) (hih _ h)
                  · exact h.elim
                · exact h.elim
            · exact both h
          · rename_i t x i' ok hop
            split at h
            · rename_i al d hlk
              have hr2 := hih _ (brA_holds h)
              intro E H w g ok2
              obtain ⟨e1, e2⟩ := lookR_spec (P := P) g hlk
              have h3 := hr2 E H w g ⟨okL_putS ok2.1 e2, ok2.2⟩
              rw [stkRun_eq] at h3 ⊢
              simp only [SFrm.dn] at h3 ⊢
              rw [← put_den] at h3
              refine frm_op ho ((guardR_spec (E := E)).1 hg) (.inl ?_) h3
              unfold execOp
              simp only [hop, Sem.run_bind]
              rw [den_evS, den_evS, e1]
              rfl
            · exact h.elim
          · exact both h
  | none =>
    have hret : ∀ (todo' : List Item), (todo' = [] ∨ ∃ k, todo' = .code .ret :: k) →
        (retC P (fun c => nz c ih) ⟨⟨fn, none, aw, todo', tmps⟩, rest, mem⟩).holds P C R →
        Runs P C ⟨⟨fn, none, aw, todo', tmps⟩, rest, mem⟩ R := by
      intro todo' htodo h
      simp only [retC] at h
      cases hfn : P.funcs[fn]? with
      | none => simp only [hfn] at h; exact h.elim
      | some f =>
        simp only [hfn] at h
        cases hres : resS P mem tmps f.results.toList with
        | none => simp only [hres] at h; exact h.elim
        | some l =>
          simp only [hres] at h
          cases rest with
          | nil =>
            obtain ⟨hrd, h⟩ := h
            intro E H w g ok
            have g' := g.take
            have hl : ∀ D, D ∈ C.x.df → w.heap[D]? = some (.deferred (some [])) := fun D hD => (g.fix.fx D _ (g.fix.mark D hD).2).1
            obtain ⟨h1, h2⟩ := run_results (P := P) g' ok.1 hres
            have hT : R ((one? l).den E) (takeW C.x.df w) := by
              obtain ⟨H', hle, g2, _⟩ := pubsR_spec (leaves (one? l)) g'
              obtain ⟨e1, e2⟩ := closeV_spec g2 _ (h2.mono hle)
              rw [← e1]
              exact h E H' _ (g2.sub (List.nil_sublist _)) e2
            show Go1 P (kindOf C.x) fn todo' ⟨(SV.denL E tmps).toArray, marksOf C.x.df⟩ w R
            rw [show kindOf C.x = none by simp [kindOf, hrd]]
            rcases htodo with rfl | ⟨k, rfl⟩
            · exact Go1.fin hfn rfl g.fix.nodup hl h1 hT
            · exact Go1.ret hfn rfl g.fix.nodup hl h1 hT
          | cons s r =>
            intro E H w g ok
            obtain ⟨h1, h2⟩ := run_results (P := P) g ok.1 hres
            have h : (nz _ ih).holds P C R := h
            rw [nz_eq] at h
            have hr := hih _ h E H w g ⟨okL_putS (ok.2 s List.mem_cons_self) h2, fun f hf => ok.2 f (List.mem_cons_of_mem _ hf)⟩
            have hT : restOf P C.x ((s :: r).map (SFrm.den E)) R ((one? l).den E) w := by
              simp only [List.map_cons, restOf]
              simp only [SFrm.den] at hr ⊢
              rw [← put_den] at hr
              cases r <;> exact hr
            rw [stkRun_eq]
            show Go1 P none fn todo' ⟨(SV.denL E tmps).toArray, []⟩ w _
            rcases htodo with rfl | ⟨k, rfl⟩
            · exact Go1.fin (l := []) hfn rfl List.nodup_nil (fun _ h => by cases h) h1 hT
            · exact Go1.ret (l := []) hfn rfl List.nodup_nil (fun _ h => by cases h) h1 hT
    have one : ∀ (todo' : List Item), (∀ (b : Frame) cs w a K, step P (lone (b.atR a (todo ++ K)) cs w) = .next (lone (b.atR a (todo' ++ K)) cs w)) →
        Runs P C ⟨⟨fn, none, aw, todo', tmps⟩, rest, mem⟩ R → Runs P C ⟨⟨fn, none, aw, todo, tmps⟩, rest, mem⟩ R :=
      fun todo' hs hr => runs_top hr rfl rfl (fun H ok => ok.1) (fun ds ro E w T hh => Go1.step (fun b cs K => hs b cs w _ K) hh)
    cases todo with
    | nil => exact hret [] (.inl rfl) h
    | cons it k =>
      cases it
      case inBlock id => exact one _ (fun b cs w a K => stepR_inBlock) (hih _ h)
      case inScope bd => exact one _ (fun b cs w a K => stepR_inScope) (hih _ h)
      case inLoop bd =>
        simp only [stepC] at h
        split at h
        · exact one _ (fun b cs w a K => stepR_inLoop) (hih _ h)
        · exact headR_sound h
      case inRegion a b => exact h.elim
      case inRangeFunc a => exact h.elim
      case endRangeFunc a => exact h.elim
      case beginRound => exact h.elim
      case call => exact h.elim
      case code cd =>
        cases cd
        case refuse => exact h.elim
        case rangeFunc => exact h.elim
        case skip => exact one _ (fun b cs w a K => stepR_skip) (hih _ h)
        case label n => exact one _ (fun b cs w a K => stepR_label) (hih _ h)
        case seq a b => exact one _ (fun b cs w a K => stepR_seq) (hih _ h)
        case scope b => exact one _ (fun b cs w a K => stepR_scope) (hih _ h)
        case block id b => exact one _ (fun b cs w a K => stepR_block) (hih _ h)
        case loop b =>
          -- at the head of a loop
          have headed : Runs P C ⟨⟨fn, none, aw, .inLoop b :: k, tmps⟩, rest, mem⟩ R → Runs P C ⟨⟨fn, none, aw, .code (.loop b) :: k, tmps⟩, rest, mem⟩ R := by
            exact fun hrun => runs_top hrun rfl rfl (fun H ok => ok.1) (fun ds ro E w T hh => Go1.headed hh)
          simp only [stepC] at h
          split at h
          · refine headed (runs_top (hih _ h) rfl rfl (fun H ok => ok.1) (fun ds ro E w T hh => Go1.step (fun fr cs K => stepR_inLoop) hh))
          · exact headed (headR_sound h)
        case ret => exact hret _ (.inr ⟨k, rfl⟩) h
        case exit id =>
          simp only [stepC] at h
          split at h
          · rename_i k' hk; exact one _ (fun b cs w a K => stepR_exit (exitTo_append K hk)) (hih _ h)
          · exact h.elim
        case goto n =>
          simp only [stepC] at h
          split at h
          · rename_i k' hk; exact one _ (fun b cs w a K => stepR_goto (gotoIn_append K hk)) (hih _ h)
          · exact h.elim
        case cond x a b =>
          have go : ∀ (t : Bool), (∀ E, (evS tmps x).den E = .bool t) → Runs P C ⟨⟨fn, none, aw, .code (if t then a else b) :: k, tmps⟩, rest, mem⟩ R → Runs P C ⟨⟨fn, none, aw, .code (.cond x a b) :: k, tmps⟩, rest, mem⟩ R := by
            intro t ht hr
            refine runs_top hr rfl rfl (fun H ok => ok.1) (fun ds ro E w T hh => ?_)
            exact Go1.step (fun fr cs K => stepR_cond (by rw [SFrm.dn, den_evS]; exact ht E)) hh
          simp only [stepC] at h
          split at h
          · rename_i hx; exact go true (fun E => by rw [hx]; rfl) (hih _ h)
          · rename_i hx; exact go false (fun E => by rw [hx]; rfl) (hih _ h)
          · rename_i t hx
            cases t with
            | true => exact go true (fun E => by rw [hx]; rfl) (hih _ (h.1 rfl))
            | false => exact go false (fun E => by rw [hx]; rfl) (hih _ (h.2 rfl))
          · exact h.elim
        case region id ops draw =>
          cases draw with
          | true => exact drawC_sound hcs hih h
          | false =>
            simp only [stepC] at h
            split at h
            · rename_i hcalm
              exact runs_top (hih _ h) rfl rfl (fun H ok => ok.1) (fun ds ro E w T hh => Go1.region hcalm hh)
            · exact h.elim
      exact h.elim

theorem execU_sound (hcs : cs.Ok P) (U : FuncId → Bool) : ∀ (n : Nat) (c : Conf), (execU P cs U n c).holds P C R → Runs P C c R
  | 0, _, h => h.elim
  | n + 1, c, h => step_sound (U := U) (ih := execU P cs U n) hcs (fun c h => execU_sound hcs U n c h) c h

theorem exec_sound (hcs : cs.Ok P) (n : Nat) (c : Conf) (h : (exec P cs n c).holds P C R) : Runs P C c R := execU_sound hcs _ n c h
end
end Sx
end
section
namespace Sx
open Go RowKit
structure After (w : World) (H : HV) (w' : World) (H' : HV) : Prop where
  below : Below w.heap.size w w'
  le : HLe H H'
  fresh : ∀ b o v, H' b o = some v → H b o = some v ∨ w.heap.size ≤ b
  cell : ∀ b o v, H' b o = some v → w'.cell? ⟨b, o, none⟩ = some v

def InMem (H : HV) (w : World) : Prop := ∀ b o v, H b o = some v → w.cell? ⟨b, o, none⟩ = some v
def PCall (P : Program) (f : FuncId) (H : HV) (args : List Value) (T : HV → Value → Prop) : Prop :=
  ∀ w, InMem H w → Calls P f args.toArray w fun e w' => ∃ v H', e = .returned v ∧ After w H w' H' ∧ T H' v

def entry (P : Program) (f : FuncId) (args : List SV) : Conf :=
  match P.funcs[f]? with
  | some fn => match fn.body with
    | some b => ⟨⟨f, none, none, [.code b], args ++ List.replicate (fn.ntmps - args.length) .undef⟩, [], []⟩
    | none => ⟨⟨f, none, none, [], []⟩, [], []⟩
  | none => ⟨⟨f, none, none, [], []⟩, [], []⟩
def Bodied (P : Program) (f : FuncId) : Bool :=
  match P.funcs[f]? with
  | some fn => fn.body.isSome && !(fn.name == "runtime.NumGoroutine")
  | none => false

theorem bodied_spec {P : Program} {f : FuncId} (h : Bodied P f = true) : ∃ fn, P.funcs[f]? = some fn ∧ fn.body.isSome = true ∧ (fn.name == "runtime.NumGoroutine") = false := by
  unfold Bodied at h
  split at h
  · rename_i fn hfn
    simp only [Bool.and_eq_true, Bool.not_eq_true'] at h
    exact ⟨fn, hfn, h.1, h.2⟩
  · cases h

section
variable {P : Program} {f : FuncId} {H : HV}

theorem good_start {w : World} (hc : InMem H w) (E : Env) : Good ⟨w, H⟩ [] E H w :=
  ⟨Below.refl _ _, HLe.refl _, fun _ _ _ h => .inl h, hc, by simp, List.Pairwise.nil, by simp, fixOk_plain _ _ _⟩
theorem pcall {args : List SV} {T : HV → Value → Prop} (hb : Bodied P f = true) (hok : SV.OkL H args) (E : Env)
    (h : ∀ w, Runs P ⟨w, H⟩ (entry P f args) fun v w' => ∃ H', After w H w' H' ∧ T H' v) : PCall P f H (SV.denL E args) T := by
  intro w hc
  obtain ⟨fn, hfn, hbs, _⟩ := bodied_spec hb
  cases hbody : fn.body with
  | none => rw [hbody] at hbs; cases hbs
  | some b =>
    have he := h w
    simp only [entry, hfn, hbody] at he
    have hr := he E H w (good_start hc E) ⟨okL_append hok (by rw [SV.OkL_iff]; intro x hx; rw [List.eq_of_mem_replicate hx]; simp [SV.Ok]), by simp⟩
    rw [stkRun_eq] at hr
    simp only [List.map_nil, restOf, SFrm.dn, dsOf, roOf, CFrm.run] at hr
    have e3 : (SV.denL E args).toArray ++ Array.replicate (fn.ntmps - (SV.denL E args).toArray.size) undef = (SV.denL E (args ++ List.replicate (fn.ntmps - args.length) .undef)).toArray := by
      simp [SV.denL_eq, SV.den, ← List.toArray_replicate]
    have hcall := calls_of_go1 (P := P) (f := f) (args := (SV.denL E args).toArray) (w := w) hfn hbody (by rw [e3]; exact hr)
    exact Calls.mono hcall fun e w' ⟨v, hv, H', h1, h2⟩ => ⟨v, H', hv, h1, h2⟩
theorem after_good {w w' : World} {m : Mem} {E : Env} {H' : HV} (g : Good ⟨w, H⟩ m E H' w') : After w H w' H' := ⟨g.below, g.ext, g.fresh, g.cell⟩

theorem unroll_sound {C : Ctx} {R : Value → World → Prop} {c : Conf} (hri : c.top.ri = none) (h : Runs P C (unroll c) R) : Runs P C c R := by
  obtain ⟨⟨fn, ri, aw, todo, tmps⟩, rest, mem⟩ := c
  simp only at hri
  subst hri
  unfold unroll at h
  split at h
  · rename_i b k he
    simp only at he
    subst he
    exact runs_top h rfl rfl (fun H ok => ok.1) (fun ds ro E w T hh => Go1.step (fun fr cs K => stepR_inLoop) hh)
  · exact h
inductive SpecR where
  | scalar (ps : List Prop) (v : SV)
  | data (ps : List Prop) (g : (Nat → D) → SV)
  | no
def SV.flat : SV → Bool
  | .int .. => true
  | .bool _ => true
  | .lb _ => true
  | _ => false

mutual
def SV.shutV : SV → Bool
  | .int .. => true
  | .bool _ => true
  | .lb _ => true
  | .str _ => true
  | .nils => true
  | .dat _ => true
  | .nilp => true
  | .agg l => SV.shutL l
  | .tup l => SV.shutL l
  | _ => false
def SV.shutL : List SV → Bool
  | [] => true
  | x :: r => SV.shutV x && SV.shutL r
end
def Law (P : Program) (f : FuncId) (spec : List SV → SpecR) : Prop :=
  Bodied P f = true ∧ ∀ (H : HV) (E : Env) (args : List SV), SV.OkL H args →
    match spec args with
    | .scalar ps v => (∀ p, p ∈ ps → p) → PCall P f H (SV.denL E args) fun _ u => u = v.den E
    | .data ps g => (∀ p, p ∈ ps → p) → PCall P f H (SV.denL E args) fun H' u => ∃ hs, u = (g hs).den E ∧ (g hs).Ok H'
    | .no => True
def ctrOf (spec : List SV → SpecR) : Ctr := fun args _ m =>
  match spec (closeL (pubsR (leavesL args) m) args) with
  | .scalar ps v => if v.flat then .val ps v m else .bad
  | .data ps g => .all ps fun hs => (g hs, pubsR (leavesL args) m)
  | .no => .bad

theorem closeL_spec {C : Ctx} {E : Env} {H : HV} {w : World} {m : Mem} (g : Good C m E H w) : ∀ l : List SV, SV.OkL H l → SV.denL E (closeL m l) = SV.denL E l ∧ SV.OkL H (closeL m l)
  | [], _ => by simp [closeL, SV.denL, SV.OkL]
  | x :: r, h => by
    obtain ⟨a, b⟩ := closeV_spec g x h.1
    obtain ⟨c, d⟩ := closeL_spec g r h.2
    exact ⟨by simp only [closeL, SV.denL, a, c], b, d⟩

theorem pubsR_ro {m : Mem} (h : roM m = true) : ∀ l : List SV, pubsR l m = m
  | [] => rfl
  | x :: r => by
    have hget : ∀ (m : Mem), roM m = true → ∀ k e d, m.get k ≠ some (.arr e d) := by
      intro m
      induction m with
      | nil => intro _ k e d h; cases h
      | cons y s ih =>
        intro hm k e d hk
        obtain ⟨j, o⟩ := y
        simp only [Mem.get] at hk
        cases o with
        | cells t cs =>
          simp only [roM] at hm
          split at hk
          · cases hk
          · exact ih hm k e d hk
        | map es =>
          simp only [roM] at hm
          split at hk
          · cases hk
          · exact ih hm k e d hk
        | arr e d => simp [roM] at hm
        | pub d => simp [roM] at hm
    have h1 : pubR m x = m := by
      unfold pubR
      split
      · split
        · rename_i hk; exact absurd hk (hget m h _ _ _)
        · rfl
      · rfl
    rw [pubsR, h1]
    exact pubsR_ro h r

theorem ctrOf_ro {spec : List SV → SpecR} : CtrRO (ctrOf spec) := by
  intro args key m h
  unfold ctrOf
  cases spec (closeL (pubsR (leavesL args) m) args) with
  | no => trivial
  | scalar ps v => by_cases hf : v.flat = true <;> simp [hf]
  | data ps g => simp only [pubsR_ro h]; intros; trivial

theorem ctrOf_ok {spec : List SV → SpecR} (h : Law P f spec) : CtrOk P f (ctrOf spec) := by
  refine ⟨bodied_spec h.1, fun C E H w args key m g hargs hk hk2 => ?_, ctrOf_ro⟩
  obtain ⟨H1, hle, g1, nw⟩ := pubsR_spec (leavesL args) g
  have hpm := pubsR_mem (leavesL args) (m := m)
  obtain ⟨e1, e2⟩ := closeL_spec g1 args (SV.OkL.mono hle _ hargs)
  have hl := h.2 H1 E _ e2
  unfold CallRight ctrOf
  cases hs : spec (closeL (pubsR (leavesL args) m) args) with
  | no => simp
  | scalar ps v =>
    simp only [hs] at hl ⊢
    split
    · rename_i r ps' v' m' he
      split at he
      · rename_i hfl
        simp only [OpR.val.injEq] at he
        obtain ⟨rfl, rfl, rfl⟩ := he
        intro hp
        have hc := hl hp w g1.cell
        rw [e1] at hc
        refine Calls.mono hc fun e w' ⟨u, H', he, ha, hu⟩ => ?_
        refine ⟨E, H, by rw [he, hu], Agree.refl _ _, HLe.refl _, g.call ha.below (HLe.refl _) (fun _ _ _ h => .inl h) (fun b o v hb => ha.cell b o v (ha.le b o v (hle b o v hb))), ?_⟩
        refine ⟨by cases v <;> simp [SV.flat] at hfl <;> simp [SV.Ok], ha.below.size, fun b hb _ => ha.below.block b hb, fun _ _ _ h => .inl h, fun k o h => .inr ⟨o, h⟩, fun k o h hl => .inr ⟨k, o, h, hl, rfl⟩, ha.below.os, ha.below.tape, ha.below.output⟩
      · cases he
    · rename_i r ps' g' he
      split at he <;> cases he
    · trivial
  | data ps gg =>
    simp only [hs] at hl ⊢
    intro hp
    have hc := hl hp w g1.cell
    rw [e1] at hc
    refine Calls.mono hc fun e w' ⟨u, H', he, ha, hs', hu, hok⟩ => ?_
    exact ⟨hs', E, H', by rw [he, hu], Agree.refl _ _, hle.trans ha.le, g1.call ha.below ha.le ha.fresh ha.cell, hok, ha.below.size, fun b hb _ => ha.below.block b hb, fun b x v h => (by
      rcases ha.fresh b x v h with h1 | h1
      · exact (nw b x v h1).imp id .inr
      · exact .inr (.inl h1)), fun k o h => .inr (hpm k o h).1, fun k o h hl => .inr ⟨k, o, (hpm k o h).2 hl, hl, rfl⟩, ha.below.os, ha.below.tape, ha.below.output⟩
end
end Sx
end
section
namespace Sx
open Go

def subC : Code → List Nat → Code
  | c, [] => c
  | .seq a _, 0 :: r => subC a r
  | .seq _ b, 1 :: r => subC b r
  | .cond _ a _, 0 :: r => subC a r
  | .cond _ _ b, 1 :: r => subC b r
  | .block _ b, 0 :: r => subC b r
  | .loop b, 0 :: r => subC b r
  | .scope b, 0 :: r => subC b r
  | .rangeFunc _ _ a _, 0 :: r => subC a r
  | .rangeFunc _ _ _ b, 1 :: r => subC b r
  | c, _ => c
def cAt (P : Program) (f : FuncId) (p : List Nat) : Code :=
  match P.funcs[f]? with
  | some fn => match fn.body with
    | some b => subC b p
    | none => .skip
  | none => .skip
def opsAt (P : Program) (f : FuncId) (p : List Nat) : Array Oper :=
  match cAt P f p with
  | .region _ ops _ => ops
  | _ => #[]

def slotS (l : List (Nat × SV)) (t : Nat) (d : SV) : SV :=
  match l with
  | [] => d
  | (u, v) :: r => if u == t then v else slotS r t d
def mkJ (d : Nat) (l : List (Nat × SV)) : Nat → Nat → List SV
  | _, 0 => []
  | t, n + 1 => slotS l t (.junk (1000 * d + t)) :: mkJ d l (t + 1) n
def mkU (l : List (Nat × SV)) : Nat → Nat → List SV
  | _, 0 => []
  | t, n + 1 => slotS l t .undef :: mkU l (t + 1) n
def mkL (f : FuncId) (todo : List Item) (n : Nat) (l : List (Nat × SV)) (m : Mem) : Conf := ⟨⟨f, none, none, todo, mkJ 0 l 0 n⟩, [], m⟩
end Sx
end
section
namespace Sx
open Go RowKit

def mkInts (h : Hd) (s : Nat) (xs : List Int) : D := .slc h s (xs.map fun x => [.int .i64 x])
def D.ints (d : D) : List Int := d.rows.map fun r => match r with | .int _ n :: _ => n | _ => 0

def D.IsInts (d : D) : Prop := ∃ h s xs, d = mkInts h s xs

section
variable (h : Hd) (s : Nat) (xs : List Int)
@[simp] theorem mkInts_len : (mkInts h s xs).len = xs.length := by simp [mkInts, D.len, D.rows]
@[simp] theorem mkInts_sz : (mkInts h s xs).sz = s := rfl
@[simp] theorem mkInts_hd : (mkInts h s xs).hd = h := rfl
@[simp] theorem mkInts_isNil : (mkInts h s xs).isNil = h.isNone := rfl
@[simp] theorem mkInts_ints : (mkInts h s xs).ints = xs := by
  simp only [mkInts, D.ints, D.rows, List.map_map]
  have : ((fun r : List D => match r with | .int _ n :: _ => n | _ => 0) ∘ fun x : Int => [D.int .i64 x]) = id := by funext x; rfl
  rw [this]; simp
@[simp] theorem mkInts_is : (mkInts h s xs).IsInts := ⟨h, s, xs, rfl⟩
@[simp] theorem mkInts_slc : (mkInts h s xs).IsSlc := ⟨h, s, _, rfl⟩
theorem mkInts_cellAt (i j : Nat) : (mkInts h s xs).cellAt i j = if j = 0 then (xs[i]?).map (D.int .i64) else none := by
  simp only [mkInts, D.cellAt, D.rows, List.getElem?_map]
  cases xs[i]? with
  | none => simp
  | some x => cases j <;> simp
@[simp] theorem mkInts_getInt (i : Nat) : (mkInts h s xs).getInt i 0 = xs.getD i 0 := by
  simp only [D.getInt, mkInts_cellAt, if_true, List.getD_eq_getElem?_getD]
  cases xs[i]? <;> rfl
@[simp] theorem mkInts_has (i : Nat) : (mkInts h s xs).HasCell i 0 (.int .i64) ↔ i < xs.length := by
  simp only [D.HasCell, mkInts_cellAt, if_true]
  constructor
  · rintro ⟨n, hn⟩
    cases hx : xs[i]? with
    | none => simp [hx] at hn
    | some x => exact (List.getElem?_eq_some_iff.1 hx).1
  · intro hi
    exact ⟨xs[i], by simp [hi]⟩
end
theorem wrap64 {n : Int} (h1 : -9223372036854775808 ≤ n) (h2 : n ≤ 9223372036854775807) : IntKind.i64.wrap n = n := by
  unfold IntKind.wrap
  simp only [IntKind.bits, IntKind.signed]
  by_cases h : n % 2 ^ 64 ≥ 2 ^ (64 - 1)
  · simp [h]; omega
  · simp [h]; omega
end Sx
end
section
namespace Sx
open Go RowKit

theorem noCtr (P : Program) : Ctrs.Ok P [] := fun _ h => by cases h
def env0 : Env := ⟨fun _ => 0, fun _ => (none, 0), fun _ => .bool false⟩
theorem runs_loop {P : Program} {C : Ctx} {R : Value → World → Prop} {σ : Type} (L : σ → Conf) (I : σ → Prop) (m : σ → Nat) (hri : ∀ s, (L s).top.ri = none)
    (hstep : ∀ s, I s → (∀ s', I s' → m s' < m s → Runs P C (L s') R) → Runs P C (unroll (L s)) R) : ∀ s, I s → Runs P C (L s) R := by
  have key : ∀ k s, m s = k → I s → Runs P C (L s) R := by
    intro k
    induction k using Nat.strongRecOn with
    | _ k ih =>
      intro s hk hI
      exact unroll_sound (hri s) (hstep s hI fun s' hI' hlt => ih (m s') (by omega) s' rfl hI')
  exact fun s hI => key _ s rfl hI
def SV.d? : SV → Option D
  | .nils => some (.slc none 0 [])
  | .dat d => some d
  | _ => none

theorem SV.d?_spec {H : HV} {E : Env} {v : SV} {d : D} (h : v.d? = some d) (hok : v.Ok H) : v.den E = d.val ∧ d.Ok H := by
  cases v <;> simp [SV.d?] at h <;> subst h
  · exact ⟨by simp [SV.den, D.val, hval], .nil 0⟩
  · exact ⟨by simp [SV.den], hok.1⟩


@[simp] theorem holds_br {P : Program} {C : Ctx} {R : Value → World → Prop} {b : Bool} {t f : Tree} : (Tree.br b t f).holds P C R ↔ (b = true → t.holds P C R) ∧ (b = false → f.holds P C R) := Iff.rfl
theorem ret_plain {P : Program} {w : World} {H : HV} {v : SV} {u : Value} (h : ∀ E, v.den E = u) : (Tree.ret v).holds P ⟨w, H⟩ fun v w' => ∃ H', After w H w' H' ∧ v = u :=
  ⟨rfl, fun E H' w' g _ => ⟨H', after_good g, h E⟩⟩
theorem law_of {P : Program} {f : FuncId} {spec : List SV → SpecR} (hb : Bodied P f = true)
    (hs : ∀ args ps v, spec args = .scalar ps v → ∀ (H : HV) (E : Env), SV.OkL H args → (∀ p, p ∈ ps → p) → PCall P f H (SV.denL E args) fun _ u => u = v.den E)
    (hd : ∀ args ps g, spec args = .data ps g → ∀ (H : HV) (E : Env), SV.OkL H args → (∀ p, p ∈ ps → p) → PCall P f H (SV.denL E args) fun H' u => ∃ hs, u = (g hs).den E ∧ (g hs).Ok H') : Law P f spec := by
  refine ⟨hb, fun H E args hargs => ?_⟩
  cases h : spec args with
  | scalar ps v => exact hs args ps v h H E hargs
  | data ps g => exact hd args ps g h H E hargs
  | no => trivial
end Sx
end
section
namespace Sx
open Go RowKit

class Codec (α : Type) where
  sz : Nat
  ok : List D → Prop
  dec : List D → α
  enc : α → List D
  ok_enc : ∀ a, ok (enc a)
  dec_enc : ∀ a, dec (enc a) = a
  len : ∀ r, ok r → r.length = sz

section
variable (α : Type) [Codec α]
def D.Is (d : D) : Prop := ∃ h s rows, d = .slc h s rows ∧ (rows = [] ∨ s = Codec.sz α) ∧ ∀ r, r ∈ rows → Codec.ok α r
def D.to (d : D) : List α := d.rows.map (Codec.dec (α := α))
end

section
variable {α : Type} [Codec α]

open Classical in
noncomputable def D.like (d : D) (xs : List α) : D := if d.Is α ∧ d.to α = xs then d else .slc none (Codec.sz α) (xs.map Codec.enc)

theorem D.like_is (d : D) (xs : List α) : (d.like xs).Is α := by
  unfold D.like
  split
  · rename_i h; exact h.1
  · exact ⟨_, _, _, rfl, .inr rfl, fun r hr => by obtain ⟨x, _, rfl⟩ := List.mem_map.1 hr; exact Codec.ok_enc x⟩

theorem D.like_to (d : D) (xs : List α) : (d.like xs).to α = xs := by
  unfold D.like
  split
  · rename_i h; exact h.2
  · simp only [D.to, D.rows, List.map_map]
    conv => rhs; rw [← List.map_id xs]
    exact List.map_congr_left fun x _ => Codec.dec_enc x

theorem D.like_self {d : D} {xs : List α} (h : d.Is α) (h' : d.to α = xs) : d.like xs = d := by
  unfold D.like
  rw [if_pos ⟨h, h'⟩]

theorem D.Is.slc {d : D} (h : d.Is α) : d.IsSlc := by obtain ⟨a, b, c, rfl, _⟩ := h; exact ⟨a, b, c, rfl⟩

theorem D.Is.length (d : D) : d.len = (d.to α).length := by simp [D.len, D.to]

theorem D.Is.size {d : D} (h : d.Is α) {i : Nat} (hi : i < (d.to α).length) : d.sz = Codec.sz α := by
  obtain ⟨a, b, c, rfl, h1, h2⟩ := h
  rcases h1 with rfl | h1
  · simp [D.to, D.rows] at hi
  · exact h1

theorem D.Is.fits {d : D} (h : d.Is α) : d.Fits (Codec.sz α) := by
  obtain ⟨a, b, c, rfl, h1, h2⟩ := h
  exact h1
theorem D.Is.row {d : D} (h : d.Is α) {i : Nat} (hi : i < (d.to α).length) : ∃ r, d.rows[i]? = some r ∧ Codec.ok α r ∧ (d.to α)[i] = Codec.dec r := by
  obtain ⟨a, b, c, rfl, h1, h2⟩ := h
  simp only [D.to, D.rows, List.length_map] at hi
  refine ⟨c[i], by simp [D.rows, hi], h2 _ (List.getElem_mem hi), by simp [D.to, D.rows]⟩
theorem is_rows {h : Hd} {rows : List (List D)} {s : Nat} (hs : s = Codec.sz α) (hr : ∀ r, r ∈ rows → Codec.ok α r) : (D.slc h s rows).Is α := ⟨_, _, _, rfl, .inr hs, hr⟩

theorem is_nil (h : Hd) (s : Nat) : (D.slc h s []).Is α := ⟨_, _, _, rfl, .inl rfl, by simp⟩
theorem D.Is.sub {d : D} (hd : d.Is α) (l h : Nat) : (d.sub l h).Is α ∧ (d.sub l h).to α = ((d.to α).drop l).take (h - l) := by
  obtain ⟨a, b, c, rfl, h1, h2⟩ := hd
  refine ⟨⟨_, _, _, rfl, ?_, fun r hr => h2 r (List.mem_of_mem_drop (List.mem_of_mem_take hr))⟩, ?_⟩
  · rcases h1 with rfl | h1
    · left; simp [D.rows]
    · exact .inr h1
  · simp [D.sub, D.to, D.rows, List.map_take, List.map_drop]

theorem D.Is.sub3 {d : D} (hd : d.Is α) (l h : Nat) : (d.sub3 l h).Is α ∧ (d.sub3 l h).to α = ((d.to α).drop l).take (h - l) := by
  obtain ⟨a, b, c, rfl, h1, h2⟩ := hd
  refine ⟨⟨_, _, _, rfl, ?_, fun r hr => h2 r (List.mem_of_mem_drop (List.mem_of_mem_take hr))⟩, ?_⟩
  · rcases h1 with rfl | h1
    · left; simp [D.rows]
    · exact .inr h1
  · simp [D.sub3, D.to, D.rows, List.map_take, List.map_drop]
end

/-! Numbers. -/
instance : Codec Int where
  sz := 1
  ok r := ∃ n, r = [.int .i64 n]
  dec r := match r with | .int _ n :: _ => n | _ => 0
  enc n := [.int .i64 n]
  ok_enc n := ⟨n, rfl⟩
  dec_enc _ := rfl
  len r := by rintro ⟨n, rfl⟩; rfl

/-! Bytes. -/
structure Byte where
  n : Int
deriving DecidableEq

instance : Codec Byte where
  sz := 1
  ok r := ∃ n, r = [.int .u8 n]
  dec r := match r with | .int _ n :: _ => ⟨n⟩ | _ => ⟨0⟩
  enc n := [.int .u8 n.n]
  ok_enc n := ⟨n.n, rfl⟩
  dec_enc _ := rfl
  len r := by rintro ⟨n, rfl⟩; rfl

instance : Codec Bool where
  sz := 1
  ok r := ∃ b, r = [.bool b]
  dec r := match r with | .bool b :: _ => b | _ => false
  enc b := [.bool b]
  ok_enc b := ⟨b, rfl⟩
  dec_enc _ := rfl
  len r := by rintro ⟨n, rfl⟩; rfl

@[simp] theorem sz_int : Codec.sz Int = 1 := rfl
@[simp] theorem sz_byte : Codec.sz Byte = 1 := rfl
@[simp] theorem sz_bool : Codec.sz Bool = 1 := rfl
@[simp] theorem ok_int (n : Int) : Codec.ok Int [.int .i64 n] := ⟨n, rfl⟩
@[simp] theorem dec_int (n : Int) : (Codec.dec [.int .i64 n] : Int) = n := rfl
@[simp] theorem ok_bool (b : Bool) : Codec.ok Bool [.bool b] := ⟨b, rfl⟩
@[simp] theorem dec_bool (b : Bool) : (Codec.dec [.bool b] : Bool) = b := rfl
@[simp] theorem ok_byte (n : Int) : Codec.ok Byte [.int .u8 n] := ⟨n, rfl⟩

theorem int_cell {d : D} (h : d.Is Int) {i : Nat} (hi : i < (d.to Int).length) : d.getInt i 0 = (d.to Int)[i] ∧ d.HasCell i 0 (.int .i64) := by
  obtain ⟨r, h1, ⟨n, rfl⟩, h3⟩ := h.row hi
  rw [h3]
  exact ⟨by simp [D.getInt, D.cellAt, h1], n, by simp [D.cellAt, h1]⟩


end Sx
namespace Sx
@[simp] theorem len_slc (h : Hd) (s : Nat) (rows : List (List D)) : (D.slc h s rows).len = rows.length := rfl
@[simp] theorem rows_slc (h : Hd) (s : Nat) (rows : List (List D)) : (D.slc h s rows).rows = rows := rfl
@[simp] theorem sz_slc (h : Hd) (s : Nat) (rows : List (List D)) : (D.slc h s rows).sz = s := rfl
@[simp] theorem hd_slc (h : Hd) (s : Nat) (rows : List (List D)) : (D.slc h s rows).hd = h := rfl
@[simp] theorem append_list {α : Type _} (a b : List α) : List.append a b = a ++ b := rfl
def SRows (α : Type) [Codec α] (rows : List (List D)) (xs : List α) : Prop := (∀ r, r ∈ rows → Codec.ok α r) ∧ rows.map Codec.dec = xs

section
variable {α : Type} [Codec α]
theorem rows_of {d : D} (h : d.Is α) : SRows α d.rows (d.to α) := by
  obtain ⟨a, b, c, rfl, _, h2⟩ := h
  exact ⟨h2, rfl⟩
theorem rows_app {a b : List (List D)} {xs ys : List α} (h : SRows α a xs) (h' : SRows α b ys) : SRows α (List.append a b) (xs ++ ys) := by
  refine ⟨fun r hr => ?_, by simp [h.2, h'.2]⟩
  rcases List.mem_append.1 hr with hr | hr
  · exact h.1 r hr
  · exact h'.1 r hr
theorem rows_one {r : List D} {x : α} (h : Codec.ok α r) (h' : Codec.dec r = x) : SRows α [r] [x] :=
  ⟨fun s hs => by rw [List.mem_singleton.1 hs]; exact h, by simp [h']⟩
theorem is_of {h : Hd} {s : Nat} {rows : List (List D)} {xs : List α} (hs : s = Codec.sz α) (hr : SRows α rows xs) : (D.slc h s rows).Is α ∧ (D.slc h s rows).to α = xs := ⟨is_rows hs hr.1, hr.2⟩
def Stands (α : Type) [Codec α] (X : SV) (xs : List α) : Prop := ∃ d : D, (∀ E, X.den E = d.val) ∧ d.Is α ∧ d.to α = xs ∧ ∀ H, X.Ok H → d.Ok H

theorem stands_nils : Stands α .nils [] := ⟨.slc none 0 [], fun _ => by simp [SV.den, D.val, hval], is_nil _ _, rfl, fun _ _ => .nil 0⟩
theorem stands_dat {d : D} {xs : List α} (h : d.Is α) (h' : d.to α = xs) : Stands α (.dat d) xs := ⟨d, fun _ => by simp [SV.den], h, h', fun _ h => h.1⟩
theorem stands_like {d : D} {xs : List α} : Stands α (.dat (d.like xs)) xs := stands_dat (D.like_is d xs) (D.like_to d xs)
theorem stands_rows {h : Hd} {s : Nat} {rows : List (List D)} {xs : List α} (hs : s = Codec.sz α) (hr : SRows α rows xs) : Stands α (.dat (.slc h s rows)) xs := stands_dat (is_of hs hr).1 (is_of hs hr).2
theorem stands_self {d : D} (h : d.Is α) : Stands α (.dat d) (d.to α) := stands_dat h rfl
end
theorem nil_rows {H : HV} {d : D} (hok : d.Ok H) (hn : d.isNil = true) : d.rows = [] := by
  cases hok with
  | nil => rfl
  | slc a c sz rows => simp [D.isNil, D.hd] at hn
  | _ => rfl
end Sx
end
section
namespace Sx
open Go RowKit
structure Rd (β : Type) where
  read : List SV → Option β
  canon : β → List SV
  right : ∀ (H : HV) (E : Env) (args : List SV) (b : β), read args = some b → SV.OkL H args → SV.denL E args = SV.denL E (canon b) ∧ SV.OkL H (canon b)
structure Rd1 (β : Type) where
  read : SV → Option β
  canon : β → SV
  right : ∀ (H : HV) (E : Env) (x : SV) (b : β), read x = some b → x.Ok H → x.den E = (canon b).den E ∧ (canon b).Ok H

def Rd.sp {β : Type} (r : Rd β) (spec : β → SpecR) (args : List SV) : SpecR :=
  match r.read args with
  | some b => spec b
  | none => .no

def Rd1.one {α : Type} (a : Rd1 α) : Rd α where
  read l := match l with | [x] => a.read x | _ => none
  canon b := [a.canon b]
  right H E args b h hok := by
    split at h
    · obtain ⟨h1, h2⟩ := a.right H E _ b h hok.1
      exact ⟨by simp only [SV.denL, h1], h2, trivial⟩
    · cases h

def Rd1.two {α β : Type} (a : Rd1 α) (b : Rd1 β) : Rd (α × β) where
  read l := match l with
    | [x, y] => match a.read x, b.read y with
      | some p, some q => some (p, q)
      | _, _ => none
    | _ => none
  canon p := [a.canon p.1, b.canon p.2]
  right H E args p h hok := by
    split at h
    · split at h
      · rename_i h1 h2
        cases h
        obtain ⟨i1, i2⟩ := a.right H E _ _ h1 hok.1
        obtain ⟨j1, j2⟩ := b.right H E _ _ h2 hok.2.1
        exact ⟨by simp only [SV.denL, i1, j1], i2, j2, trivial⟩
      · cases h
    · cases h

def Rd1.three {α β γ : Type} (a : Rd1 α) (b : Rd1 β) (c : Rd1 γ) : Rd (α × β × γ) where
  read l := match l with
    | [x, y, z] => match a.read x, b.read y, c.read z with
      | some p, some q, some r => some (p, q, r)
      | _, _, _ => none
    | _ => none
  canon p := [a.canon p.1, b.canon p.2.1, c.canon p.2.2]
  right H E args p h hok := by
    split at h
    · split at h
      · rename_i h1 h2 h3
        cases h
        obtain ⟨i1, i2⟩ := a.right H E _ _ h1 hok.1
        obtain ⟨j1, j2⟩ := b.right H E _ _ h2 hok.2.1
        obtain ⟨k1, k2⟩ := c.right H E _ _ h3 hok.2.2.1
        exact ⟨by simp only [SV.denL, i1, j1, k1], i2, j2, k2, trivial⟩
      · cases h
    · cases h

def Rd1.four {α β γ δ : Type} (a : Rd1 α) (b : Rd1 β) (c : Rd1 γ) (d : Rd1 δ) : Rd (α × β × γ × δ) where
  read l := match l with
    | [x, y, z, u] => match a.read x, b.read y, c.read z, d.read u with
      | some p, some q, some r, some s => some (p, q, r, s)
      | _, _, _, _ => none
    | _ => none
  canon p := [a.canon p.1, b.canon p.2.1, c.canon p.2.2.1, d.canon p.2.2.2]
  right H E args p h hok := by
    split at h
    · split at h
      · rename_i h1 h2 h3 h4
        cases h
        obtain ⟨i1, i2⟩ := a.right H E _ _ h1 hok.1
        obtain ⟨j1, j2⟩ := b.right H E _ _ h2 hok.2.1
        obtain ⟨k1, k2⟩ := c.right H E _ _ h3 hok.2.2.1
        obtain ⟨l1, l2⟩ := d.right H E _ _ h4 hok.2.2.2.1
        exact ⟨by simp only [SV.denL, i1, j1, k1, l1], i2, j2, k2, l2, trivial⟩
      · cases h
    · cases h
def rdInt : Rd1 Int where
  read x := match x with | .int .i64 n => some n | _ => none
  canon n := .int .i64 n
  right H E x b h hok := by
    split at h
    · cases h; exact ⟨rfl, trivial⟩
    · cases h
def rdBool : Rd1 Bool where
  read x := match x with | .bool b => some b | .lb b => some b | _ => none
  canon b := .bool b
  right H E x b h hok := by
    split at h
    · cases h; exact ⟨rfl, trivial⟩
    · cases h; exact ⟨by simp [SV.den], trivial⟩
    · cases h
def rdD : Rd1 D where
  read x := x.d?
  canon d := .dat d
  right H E x d h hok := by
    obtain ⟨h1, h2⟩ := SV.d?_spec (E := E) h hok
    refine ⟨by simpa [SV.den] using h1, h2, ?_⟩
    cases x <;> simp [SV.d?] at h
    · subst h; exact ⟨_, _, _, rfl⟩
    · subst h; exact hok.2
def RetS (w : World) (H : HV) (v : SV) : Value → World → Prop := fun u w' => ∃ H', After w H w' H' ∧ ∀ E, u = v.den E
def RetD (w : World) (H : HV) (g : (Nat → D) → SV) : Value → World → Prop := fun u w' => ∃ H', After w H w' H' ∧ ∃ ds, (∀ E, u = (g ds).den E) ∧ (g ds).Ok H'

section
variable {P : Program} {w : World} {H : HV}

theorem ret_S {v v' : SV} (h : ∀ E E', v.den E = v'.den E') : (Tree.ret v).holds P ⟨w, H⟩ (RetS w H v') :=
  ⟨rfl, fun E H' _ g _ => ⟨H', after_good g, fun E' => h E E'⟩⟩

theorem ret_int {k : IntKind} {a b : Int} (h : a = b) : (Tree.ret (.int k a)).holds P ⟨w, H⟩ (RetS w H (.int k b)) := by
  subst h; exact ret_S fun _ _ => rfl

theorem ret_bool {a b : Bool} (h : a = b) : (Tree.ret (.bool a)).holds P ⟨w, H⟩ (RetS w H (.bool b)) := by
  subst h; exact ret_S fun _ _ => rfl

theorem ret_lb {a b : Bool} (h : a = b) : (Tree.ret (.lb a)).holds P ⟨w, H⟩ (RetS w H (.bool b)) := by
  subst h; exact ret_S fun _ _ => by simp [SV.den]

theorem ret_D {v : SV} {g : (Nat → D) → SV} (ds : Nat → D) (h : ∀ E E', v.den E = (g ds).den E') (hok : ∀ H', v.Ok H' → (g ds).Ok H') : (Tree.ret v).holds P ⟨w, H⟩ (RetD w H g) :=
  ⟨rfl, fun E H' _ gd hv => ⟨H', after_good gd, ds, fun E' => h E E', hok H' hv⟩⟩

theorem StkRun.mono {X : CtxX} {R R' : Value → World → Prop} (hr : ∀ v w, R v w → R' v w) : ∀ {r : List CFrm} {c : CFrm} {w : World}, StkRun P X c r w R → StkRun P X c r w R'
  | [], _, _, h => CFrm.run_mono h hr
  | _ :: _, _, _, h => CFrm.run_mono h fun _ _ h' => StkRun.mono hr h'

theorem Runs.mono {C : Ctx} {c : Conf} {R R' : Value → World → Prop} (h : Runs P C c R) (hr : ∀ v w, R v w → R' v w) : Runs P C c R' :=
  fun E H w g ok => StkRun.mono hr (h E H w g ok)

theorem law_in {f : FuncId} {β : Type} (r : Rd β) {spec : β → SpecR} (hb : Bodied P f = true)
    (h : ∀ (H : HV) (w : World) (b : β), SV.OkL H (r.canon b) → match spec b with
      | .scalar ps v => (∀ p, p ∈ ps → p) → Runs P ⟨w, H⟩ (entry P f (r.canon b)) (RetS w H v)
      | .data ps g => (∀ p, p ∈ ps → p) → Runs P ⟨w, H⟩ (entry P f (r.canon b)) (RetD w H g)
      | .no => True) : Law P f (r.sp spec) := by
  refine ⟨hb, fun H E args hargs => ?_⟩
  unfold Rd.sp
  cases hr : r.read args with
  | none => trivial
  | some b =>
    simp only
    obtain ⟨h1, h2⟩ := r.right H E args b hr hargs
    rw [h1]
    cases hs : spec b with
    | no => trivial
    | scalar ps v =>
      intro hp
      refine pcall hb h2 E fun w => ?_
      have := h H w b h2
      rw [hs] at this
      exact (this hp).mono fun u w2 ⟨H2, ha, hu⟩ => ⟨H2, ha, hu E⟩
    | data ps g =>
      intro hp
      refine pcall hb h2 E fun w => ?_
      have := h H w b h2
      rw [hs] at this
      exact (this hp).mono fun u w2 ⟨H2, ha, ds, hu, hok⟩ => ⟨H2, ha, ds, hu E, hok⟩

@[simp] theorem holds_need {C : Ctx} {R : Value → World → Prop} {p : Prop} {t : Tree} : (Tree.need p t).holds P C R ↔ p ∧ t.holds P C R := Iff.rfl
@[simp] theorem holds_all {C : Ctx} {R : Value → World → Prop} {f : (Nat → Nat → D) → Tree} : (Tree.all f).holds P C R ↔ ∀ hs, (f hs).holds P C R := Iff.rfl
end

theorem wrap_succ {j n : Nat} (h : j < n) (hn : n ≤ 1048576) : IntKind.i64.wrap ((j : Int) + 1) = ((j + 1 : Nat) : Int) := by
  rw [wrap64 (by omega) (by omega)]; simp

theorem getD_lt {xs : List Int} {j : Nat} (h : j < xs.length) : xs.getD j 0 = xs[j] := by simp [h]

theorem take_has {xs : List Int} {j : Nat} (h : j < xs.length) (n : Int) : (xs.take (j + 1)).contains n = ((xs.take j).contains n || (xs[j] == n)) := by
  rw [List.take_succ_eq_append_getElem h]
  simp only [List.contains_eq_any_beq, List.any_append, List.any_cons, List.any_nil, Bool.or_false]
  congr 1
  exact Bool.beq_comm
theorem int_at {d : D} (hd : d.Is Int) {j : Nat} (hj : j < (d.to Int).length) :
    (0 ≤ (j : Int) ∧ (j : Int) < (d.len : Int) ∧ d.sz = 1) ∧ d.HasCell (Int.toNat j) 0 (.int .i64) ∧ d.getInt (Int.toNat j) 0 = (d.to Int)[j] := by
  obtain ⟨h1, h2⟩ := int_cell hd hj
  exact ⟨⟨by omega, by rw [D.Is.length (α := Int)]; omega, by rw [hd.size hj]; rfl⟩, h2, h1⟩

end Sx
end
section
namespace Sx
open Go RowKit
inductive TS where
  | int (k : IntKind)
  | bool
  | slc (e : TS)
  | st (fs : List TS)
  | arr (n : Nat) (e : TS)

mutual
def TS.sz : TS → Nat
  | .int _ => 1
  | .bool => 1
  | .slc _ => 1
  | .st fs => TS.szL fs
  | .arr n e => n * e.sz
def TS.szL : List TS → Nat
  | [] => 0
  | f :: r => f.sz + TS.szL r
end

mutual
def TS.fits (P : Program) : TS → TypeId → Bool
  | .int k, t => match P.underlying t with | some (.int k') => k' == k | _ => false
  | .bool, t => match P.underlying t with | some .bool => true | _ => false
  | .slc e, t => match P.underlying t with | some (.slice e') => e.fits P e' && P.cellsOf e' == e.sz && decide (0 < e.sz) | _ => false
  | .st fs, t => match P.underlying t with | some (.struct gs) => P.cellsOf t == TS.szL fs && TS.fitsL P fs gs.toList 0 | _ => false
  | .arr n e, t => match P.underlying t with | some (.array n' e') => n' == n && P.cellsOf t == n * e.sz && P.cellsOf e' == e.sz && e.fits P e' | _ => false
def TS.fitsL (P : Program) : List TS → List Field → Nat → Bool
  | [], [], _ => true
  | f :: fs, g :: gs, off => g.offset == off && P.cellsOf g.type == f.sz && f.fits P g.type && TS.fitsL P fs gs (off + f.sz)
  | _, _, _ => false
end

mutual
def TS.Sh : TS → List D → Prop
  | .int k, ds => ∃ n, ds = [.int k n] ∧ (Lit.int k n).wf = true
  | .bool, ds => ∃ b, ds = [.bool b]
  | .slc e, ds => ∃ h s rows, ds = [.slc h s rows] ∧ (rows = [] ∨ s = e.sz) ∧ rows.length ≤ maxLen ∧ ∀ r, r ∈ rows → e.Sh r
  | .st fs, ds => TS.ShL fs ds
  | .arr n e, ds => ∃ l : List (List D), ds = l.flatten ∧ l.length = n ∧ ∀ r, r ∈ l → e.Sh r
def TS.ShL : List TS → List D → Prop
  | [], ds => ds = []
  | f :: r, ds => ∃ a b, ds = a ++ b ∧ f.Sh a ∧ TS.ShL r b
end
def allOf (w : World) : HV := fun b o => w.cell? ⟨b, o, none⟩
theorem allOf_in (w : World) : InMem (allOf w) w := fun _ _ _ h => h

section
variable {H : Type} {enc : TypeId × Value → H} {P : Program} {w : World} {base : Nat} {spare : Nat → Bool} {held : Bool}
def Gives (w : World) (ts : TS) (cs : List Value) : Prop := ∃ ds : List D, ds.map D.val = cs ∧ (∀ d, d ∈ ds → d.Ok (allOf w)) ∧ ts.Sh ds ∧ ds.length = ts.sz
def GivesL (w : World) (ts : List TS) (cs : List Value) : Prop := ∃ ds : List D, ds.map D.val = cs ∧ (∀ d, d ∈ ds → d.Ok (allOf w)) ∧ TS.ShL ts ds ∧ ds.length = TS.szL ts

theorem gives_slc {e : TS} {t e' : TypeId} (ht : P.underlying t = some (.slice e')) (hc : P.cellsOf e' = e.sz) (h0 : 0 < e.sz) {fuel : Nat} {cs : List Value} {x : DataW H × List MemPlace}
    (h : DataW.trod enc P w base spare held fuel t cs = some x)
    (ih : ∀ n cs x, DataW.trod enc P w base spare held n e' cs = some x → Gives w e cs) : Gives w (.slc e) cs := by
  rcases Deep.open_slice ht h with ⟨rfl, _⟩ | ⟨a, len, cap, m, n, Df, Pl, rfl, hb, hl, hm, hmm, rfl, hx⟩
  · exact ⟨[.slc none 0 []], by simp [D.val, hval], by simp; exact .nil 0, ⟨none, 0, [], rfl, .inl rfl, Nat.zero_le _, by simp⟩, by simp [TS.sz]⟩
  · have hlm : len ≤ m := by rw [hmm]; split <;> omega
    obtain ⟨f, hf⟩ := Deep.choose_lt (α := List D) (n := len) (p := fun i ds => (w.cells? base (a.add (i * P.cellsOf e')) (P.cellsOf e') = some (ds.map D.val)) ∧ (∀ d, d ∈ ds → d.Ok (allOf w)) ∧ e.Sh ds ∧ ds.length = e.sz) (fun i hi => by
      obtain ⟨cs', h1, h2⟩ := hx i (by omega)
      obtain ⟨ds, rfl, h3⟩ := ih _ _ _ h2
      exact ⟨ds, h1, h3⟩)
    have hcell : ∀ i j x, i < len → (f i)[j]? = some x → w.cell? ((a.add (i * e.sz)).add j) = some x.val := by
      intro i j x hi hj
      obtain ⟨h1, _, _, h4⟩ := hf i hi
      obtain ⟨_, _, h2⟩ := World.cells?_some h1
      have hjl : j < P.cellsOf e' := by
        rw [hc, ← h4]
        exact (List.getElem?_eq_some_iff.1 hj).1
      rw [← hc, h2 j hjl, List.getElem?_map, hj]; rfl
    have hspot : 0 < len → a.spot = none := by
      intro hl0
      obtain ⟨_, _, _, h4⟩ := hf 0 hl0
      have := hcell 0 0 _ hl0 (List.getElem?_eq_getElem (by omega : 0 < (f 0).length))
      simp only [Nat.zero_mul, Deep.add_add] at this
      simpa [Addr.add] using World.cell?_spot this
    have hadd : ∀ k, 0 < len → a.add k = ⟨a.block, a.off + k, none⟩ := fun k hl0 => add_none (hspot hl0) k
    refine ⟨[.slc (some (a, cap)) e.sz ((List.range len).map f)], by simp [D.val, hval], ?_, ?_, by simp [TS.sz]⟩
    · intro d hd
      rw [List.mem_singleton.1 hd]
      refine .slc a cap e.sz _ (fun hne => hspot (by rcases Nat.eq_zero_or_pos len with h | h; · subst h; simp at hne
                                                     · exact h)) (by simpa using hl) ?_ ?_ ?_
      · intro r hr
        obtain ⟨i, hi, rfl⟩ := List.mem_map.1 hr
        exact (hf i (List.mem_range.1 hi)).2.2.2
      · intro i j r x hr hj
        rw [List.getElem?_map] at hr
        have hi : i < len := by
          rcases Nat.lt_or_ge i len with h | h
          · exact h
          · simp [List.getElem?_range, h] at hr
        simp [List.getElem?_range, hi] at hr
        subst hr
        have := hcell i j x hi hj
        rw [Deep.add_add, hadd _ (by omega)] at this
        simpa [allOf, Nat.add_assoc] using this
      · intro r hr
        obtain ⟨i, hi, rfl⟩ := List.mem_map.1 hr
        exact (hf i (List.mem_range.1 hi)).2.1
    · simp only [TS.Sh]
      refine ⟨_, _, _, rfl, .inr rfl, by simp; omega, fun r hr => ?_⟩
      obtain ⟨i, hi, rfl⟩ := List.mem_map.1 hr
      exact (hf i (List.mem_range.1 hi)).2.2.1

theorem mapM_some_mem {α β : Type} {f : α → Option β} : ∀ (l : List α) (xs : List β), l.mapM f = some xs → ∀ i, i ∈ l → ∃ y, f i = some y
  | [], _, _, i, h => by cases h
  | a :: l, xs, h, i, hi => by
    simp only [List.mapM_cons, Option.bind_eq_bind, Option.bind_eq_some_iff] at h
    obtain ⟨y, hy, ys, hys, _⟩ := h
    rcases List.mem_cons.1 hi with rfl | hi
    · exact ⟨y, hy⟩
    · exact mapM_some_mem l ys hys i hi
theorem trod_arr {t e : TypeId} {m fuel : Nat} {cs : List Value} {x : DataW H × List MemPlace} (ht : P.underlying t = some (.array m e)) (h : DataW.trod enc P w base spare held fuel t cs = some x) :
    ∃ n, cs.length = P.cellsOf t ∧ ∀ i, i < m → ∃ y, DataW.trod enc P w base spare held n e ((cs.drop (i * P.cellsOf e)).take (P.cellsOf e)) = some y := by
  cases fuel with
  | zero => simp [DataW.trod] at h
  | succ n =>
    unfold DataW.trod at h
    rw [ht] at h
    simp only at h
    split at h
    · rename_i hl
      refine ⟨n, hl, fun i hi => ?_⟩
      cases hm : (List.range m).mapM fun i => DataW.trod enc P w base spare held n e ((cs.drop (i * P.cellsOf e)).take (P.cellsOf e)) with
      | none => rw [hm] at h; cases h
      | some xs =>
        have := mapM_some_mem (List.range m) xs hm i (List.mem_range.2 hi)
        exact this
    · cases h

theorem pieces {α : Type} (s : Nat) : ∀ (n : Nat) (cs : List α), cs.length = n * s → ((List.range n).map fun i => (cs.drop (i * s)).take s).flatten = cs
  | 0, cs, h => by simp at h; subst h; rfl
  | n + 1, cs, h => by
    rw [List.range_succ_eq_map, List.map_cons, List.flatten_cons, List.map_map]
    have := pieces s n (cs.drop s) (by rw [List.length_drop, h, Nat.add_mul]; omega)
    have e : ((fun i => (cs.drop (i * s)).take s) ∘ Nat.succ) = fun i => ((cs.drop s).drop (i * s)).take s := by
      funext i; simp only [Function.comp, List.drop_drop]; congr 2; simp only [Nat.succ_eq_add_one]; rw [Nat.add_mul]; omega
    rw [e, this]
    simp

mutual
theorem gives (ts : TS) (t : TypeId) (hfit : ts.fits P t = true) (fuel : Nat) (cs : List Value) (x : DataW H × List MemPlace)
    (h : DataW.trod enc P w base spare held fuel t cs = some x) : Gives w ts cs := by
  match ts, hfit with
  | .int k, hfit =>
    unfold TS.fits at hfit
    split at hfit
    · rename_i k' ht
      simp only [beq_iff_eq] at hfit
      subst hfit
      obtain ⟨n, rfl, _, hw⟩ := DataW.trod_int ht h
      exact ⟨[.int k' n], rfl, by simp; exact .int _ _, by simp [TS.Sh, hw], by simp [TS.sz]⟩
    · cases hfit
  | .bool, hfit =>
    unfold TS.fits at hfit
    split at hfit
    · rename_i ht
      obtain ⟨n, rfl, _⟩ := DataW.trod_bool ht h
      exact ⟨[.bool n], rfl, by simp; exact .bool _, by simp [TS.Sh], by simp [TS.sz]⟩
    · cases hfit
  | .slc e, hfit =>
    unfold TS.fits at hfit
    split at hfit
    · rename_i e' ht
      simp only [Bool.and_eq_true, beq_iff_eq, decide_eq_true_eq] at hfit
      exact gives_slc ht hfit.1.2 hfit.2 h fun n cs x h' => gives e e' hfit.1.1 n cs x h'
    · cases hfit
  | .st fs, hfit =>
    unfold TS.fits at hfit
    split at hfit
    · rename_i gs ht
      simp only [Bool.and_eq_true, beq_iff_eq] at hfit
      obtain ⟨xs, n, _, _, hlen, hxl, hfld⟩ := DataW.trod_struct ht h
      have := givesL fs gs.toList 0 hfit.2 n cs (by simpa using hlen.trans hfit.1) (fun g hg => by
        obtain ⟨i, hi, hgi⟩ := List.mem_iff_getElem.1 hg
        have h1 := hfld i g (by simpa using (Array.getElem?_eq_some_iff.2 ⟨by simpa using hi, by simpa using hgi⟩))
        rw [List.getElem?_eq_getElem (by rw [hxl]; simpa using hi)] at h1
        exact ⟨_, h1⟩)
      obtain ⟨ds, h1, h2, h3, h4⟩ := this
      exact ⟨ds, by simpa using h1, h2, by simpa [TS.Sh] using h3, by simpa [TS.sz] using h4⟩
    · cases hfit
  | .arr m e, hfit =>
    unfold TS.fits at hfit
    split at hfit
    · rename_i m' e' ht
      simp only [Bool.and_eq_true, beq_iff_eq] at hfit
      obtain ⟨⟨⟨rfl, hf1⟩, hf2⟩, hf3⟩ := hfit
      obtain ⟨n, hlen, hx⟩ := trod_arr ht h
      obtain ⟨f, hf⟩ := Deep.choose_lt (α := List D) (n := m') (p := fun i ds => ds.map D.val = (cs.drop (i * P.cellsOf e')).take (P.cellsOf e') ∧ (∀ d, d ∈ ds → d.Ok (allOf w)) ∧ e.Sh ds ∧ ds.length = e.sz) (fun i hi => by
        obtain ⟨y, hy⟩ := hx i hi
        exact gives e e' hf3 n _ y hy)
      refine ⟨((List.range m').map f).flatten, ?_, ?_, ?_, ?_⟩
      · rw [← pieces (P.cellsOf e') m' cs (by rw [hlen, hf1, hf2]), List.map_flatten, List.map_map]
        congr 1
        exact List.map_congr_left fun i hi => (hf i (List.mem_range.1 hi)).1
      · intro d hd
        obtain ⟨r, hr, hd⟩ := List.mem_flatten.1 hd
        obtain ⟨i, hi, rfl⟩ := List.mem_map.1 hr
        exact (hf i (List.mem_range.1 hi)).2.1 d hd
      · simp only [TS.Sh]
        refine ⟨_, rfl, by simp, fun r hr => ?_⟩
        obtain ⟨i, hi, rfl⟩ := List.mem_map.1 hr
        exact (hf i (List.mem_range.1 hi)).2.2.1
      · rw [List.length_flatten, List.map_map]
        have : (List.range m').map (List.length ∘ f) = List.replicate m' e.sz := by
          rw [List.eq_replicate_iff]
          refine ⟨by simp, fun b hb => ?_⟩
          obtain ⟨i, hi, rfl⟩ := List.mem_map.1 hb
          exact (hf i (List.mem_range.1 hi)).2.2.2
        rw [this]; simp [TS.sz]
    · cases hfit
theorem givesL (ts : List TS) (gs : List Field) (off : Nat) (hfit : TS.fitsL P ts gs off = true) (n : Nat) (cs : List Value) (hlen : cs.length = off + TS.szL ts)
    (h : ∀ g, g ∈ gs → ∃ x, DataW.trod enc P w base spare held n g.type ((cs.drop g.offset).take (P.cellsOf g.type)) = some x) : GivesL w ts (cs.drop off) := by
  match ts, gs, hfit with
  | [], [], hfit =>
    refine ⟨[], ?_, by simp, by simp [TS.ShL], by simp [TS.szL]⟩
    simp only [TS.szL] at hlen
    rw [List.drop_eq_nil_of_le (by omega)]; rfl
  | [], _ :: _, hfit => simp [TS.fitsL] at hfit
  | _ :: _, [], hfit => simp [TS.fitsL] at hfit
  | f :: fs, g :: gs, hfit =>
    simp only [TS.fitsL, Bool.and_eq_true, beq_iff_eq] at hfit
    obtain ⟨⟨⟨h1, h2⟩, h3⟩, h4⟩ := hfit
    simp only [TS.szL] at hlen
    obtain ⟨x, hx⟩ := h g (by simp)
    rw [h1, h2] at hx
    obtain ⟨d1, e1, o1, s1, l1⟩ := gives f g.type h3 n _ x hx
    obtain ⟨d2, e2, o2, s2, l2⟩ := givesL fs gs (off + f.sz) h4 n cs (by omega) (fun g' hg' => h g' (by simp [hg']))
    refine ⟨d1 ++ d2, ?_, ?_, ?_, ?_⟩
    · rw [List.map_append, e1, e2, ← List.drop_drop, List.take_append_drop]
    · intro d hd
      rcases List.mem_append.1 hd with hd | hd
      · exact o1 d hd
      · exact o2 d hd
    · exact ⟨d1, d2, rfl, s1, s2⟩
    · simp [TS.szL, l1, l2]
end
theorem arg_st {r : Reach} {b0 : Nat} {t : TypeId} {fs : List TS} {gs : Array Field} {v : Value} {d : DataW H} {p : List MemPlace} (ht : P.underlying t = some (.struct gs)) (hfit : TS.fits P (.st fs) t = true)
    (hv : Value.okWide P w r b0 t v) (h : DataW.Trod enc P w base spare held t v d p) :
    ∃ ds : List D, v = .agg (ds.map D.val).toArray ∧ (∀ d, d ∈ ds → d.Ok (allOf w)) ∧ TS.ShL fs ds := by
  obtain ⟨cs, rfl, _⟩ := WideShapes.okWide_struct ht hv
  obtain ⟨fuel, hf⟩ := h
  obtain ⟨ds, h1, h2, h3, _⟩ := gives (.st fs) t hfit fuel _ _ hf
  refine ⟨ds, ?_, h2, by simpa [TS.Sh] using h3⟩
  rw [h1]; simp [Value.cells]



end
theorem law_calls {P : Program} {f : FuncId} {spec : List SV → SpecR} (h : Law P f spec) {w : World} {args : List SV} (hok : SV.OkL (allOf w) args)
    (hs : ∃ ps, spec args = .scalar ps (.lb true) ∧ ∀ p, p ∈ ps → p) :
    Calls P f (SV.denL env0 args).toArray w fun e w' => e = .returned (.bool true) ∧ Below w.heap.size w w' := by
  obtain ⟨ps, hs, hp⟩ := hs
  have h2 := h.2 (allOf w) env0 args hok
  rw [hs] at h2
  exact Calls.mono (h2 hp w (allOf_in w)) fun e w' ⟨u, H', he, ha, hu⟩ => ⟨by rw [he, hu]; simp [SV.den], ha.below⟩
end Sx
end
section
namespace Sx
structure Sec where
  b0 : Int
  b1 : Int
  b2 : Int
  b3 : Int
  b4 : Int
  b5 : Int
  b6 : Int
  b7 : Int
deriving DecidableEq
structure Wt where
  vol : Int
  start : Int
  data : List Sec
deriving DecidableEq
structure Ev where
  kind : Int
  write : Int
deriving DecidableEq
structure Hist where
  sizes : List Int
  writes : List Wt
  events : List Ev
deriving DecidableEq

def badSize (n : Int) : Bool := decide (n < 1) || decide (n > 4096)
def sizesErr (l : List Int) : Int := if l.length < 1 ∨ l.length > 8 then 6 else if l.any badSize = true then 2 else 0
def fitsErr (s : List Int) (w : Wt) : Int :=
  if w.vol < 0 ∨ w.vol ≥ s.length then 7 else if w.data.length = 0 then 1
  else if w.start < 0 ∨ w.start > s.getD w.vol.toNat 0 - w.data.length then 2 else 0
def firstErr (s : List Int) : List Wt → Int
  | [] => 0
  | w :: r => if fitsErr s w ≠ 0 then fitsErr s w else firstErr s r
structure Tl where
  issued : List Int
  acked : List Int
deriving DecidableEq
def evStep (n : Nat) (i : Int) (t : Tl) (e : Ev) : Int × Tl :=
  if e.kind = 0 then (if e.write ≠ t.issued.length ∨ e.write ≥ n then (3, t) else (0, ⟨t.issued ++ [i], t.acked ++ [-1]⟩))
  else if e.kind = 1 then (if e.write < 0 ∨ e.write ≥ t.issued.length then (7, t) else if t.acked.getD e.write.toNat 0 ≥ 0 then (8, t) else (0, ⟨t.issued, t.acked.set e.write.toNat i⟩))
  else (3, t)
def runEv (n : Nat) (l : List Ev) : Nat → Int × Tl
  | 0 => (0, ⟨[], []⟩)
  | i + 1 => if (runEv n l i).1 ≠ 0 then runEv n l i else match l[i]? with
    | some e => evStep n i (runEv n l i).2 e
    | none => runEv n l i
def zTl : Tl := ⟨[], []⟩
def checkH (h : Hist) : Int × Tl :=
  if sizesErr h.sizes ≠ 0 then (sizesErr h.sizes, zTl)
  else if h.writes.length > 4096 then (6, zTl)
  else if firstErr h.sizes h.writes ≠ 0 then (firstErr h.sizes h.writes, zTl)
  else if (runEv h.writes.length h.events h.events.length).1 ≠ 0 then ((runEv h.writes.length h.events h.events.length).1, zTl)
  else if (runEv h.writes.length h.events h.events.length).2.issued.length < h.writes.length then (3, zTl)
  else (0, (runEv h.writes.length h.events h.events.length).2)
def atEv : List Ev → Ev → Int
  | [], _ => -1
  | x :: r, e => if x = e then 0 else if atEv r e < 0 then -1 else atEv r e + 1
theorem atEv_nil (e : Ev) : atEv [] e = -1 := rfl
theorem atEv_cons (x : Ev) (r : List Ev) (e : Ev) : atEv (x :: r) e = if x = e then 0 else if atEv r e < 0 then -1 else atEv r e + 1 := rfl
theorem atEv_cases (l : List Ev) (e : Ev) : (atEv l e = -1 ∧ e ∉ l) ∨ (0 ≤ atEv l e ∧ atEv l e < l.length ∧ e ∈ l) := by
  induction l with
  | nil => exact .inl ⟨rfl, by simp⟩
  | cons x r ih =>
    rw [atEv_cons]
    by_cases h : x = e
    · right; subst h; rw [if_pos rfl]; simp only [List.length_cons]; exact ⟨Int.le_refl _, by omega, List.mem_cons_self⟩
    · rw [if_neg h]
      rcases ih with ⟨h1, h2⟩ | ⟨h1, h2, h3⟩
      · left
        rw [if_pos (by omega)]
        exact ⟨rfl, fun hm => (List.mem_cons.1 hm).elim (fun he => h he.symm) h2⟩
      · right
        rw [if_neg (by omega)]
        simp only [List.length_cons]
        exact ⟨by omega, by omega, List.mem_cons_of_mem _ h3⟩
theorem atEv_append (a b : List Ev) (e : Ev) : atEv (a ++ b) e = if atEv a e < 0 then (if atEv b e < 0 then -1 else atEv b e + a.length) else atEv a e := by
  induction a with
  | nil =>
    rw [List.nil_append, atEv_nil, if_pos (by decide)]
    have := atEv_cases b e
    split
    · omega
    · simp
  | cons x r ih =>
    rw [List.cons_append, atEv_cons, atEv_cons]
    by_cases h : x = e
    · rw [if_pos h, if_pos h, if_neg (by omega)]
    · rw [if_neg h, if_neg h, ih]
      have h1 := atEv_cases r e
      have h2 := atEv_cases b e
      simp only [List.length_cons]
      generalize atEv r e = p at h1 ⊢
      generalize atEv b e = q at h2 ⊢
      by_cases hp : p < 0
      · simp only [if_pos hp]
        by_cases hq : q < 0
        · simp only [if_pos hq]; simp
        · simp only [if_neg hq]
          rw [if_neg (by omega)]
          rw [if_pos (by decide)]
          omega
      · simp only [if_neg hp]
        rw [if_neg (by omega)]
theorem atEv_take {l : List Ev} {i : Nat} (hi : i < l.length) (e : Ev) : atEv (l.take (i + 1)) e = if atEv (l.take i) e < 0 then (if l[i] = e then (i : Int) else -1) else atEv (l.take i) e := by
  have h1 : atEv [l[i]] e = if l[i] = e then 0 else -1 := by
    rw [atEv_cons]
    by_cases h : l[i] = e
    · rw [if_pos h, if_pos h]
    · rw [if_neg h, if_neg h, if_pos (by rw [atEv_nil]; decide)]
  rw [List.take_succ_eq_append_getElem hi, atEv_append, h1]
  have hl : ((l.take i).length : Int) = i := by rw [List.length_take]; omega
  rw [hl]
  by_cases h : l[i] = e
  · simp [if_pos h]
  · simp [if_neg h]
structure TlOk (n : Nat) (l : List Ev) (t : Tl) : Prop where
  len : t.acked.length = t.issued.length
  le : t.issued.length ≤ n
  iss : ∀ w : Nat, (h : w < t.issued.length) → t.issued[w] = atEv l ⟨0, w⟩ ∧ 0 ≤ t.issued[w]
  not : ∀ w : Int, (w < 0 ∨ (t.issued.length : Int) ≤ w) → atEv l ⟨0, w⟩ = -1 ∧ atEv l ⟨1, w⟩ = -1
  ack : ∀ w : Nat, (h : w < t.acked.length) → t.acked[w] = atEv l ⟨1, w⟩
  kind : ∀ e, e ∈ l → (e.kind = 0 ∨ e.kind = 1) ∧ 0 ≤ e.write ∧ e.write < t.issued.length

theorem evStep_ok {n : Nat} {l : List Ev} {i : Nat} (hi : i < l.length) {t : Tl} (h : TlOk n (l.take i) t) (h0 : (evStep n i t l[i]).1 = 0) : TlOk n (l.take (i + 1)) (evStep n i t l[i]).2 := by
  have hat := atEv_take hi
  have hmem : ∀ e, e ∈ l.take (i + 1) → e ∈ l.take i ∨ e = l[i] := fun e he => by
    rw [List.take_succ_eq_append_getElem hi] at he
    rcases List.mem_append.1 he with he | he
    · exact .inl he
    · exact .inr (List.mem_singleton.1 he)
  have hneg : ∀ e, atEv (l.take i) e < 0 → atEv (l.take i) e = -1 := fun e he => by
    rcases atEv_cases (l.take i) e with ⟨h1, _⟩ | ⟨h1, _⟩
    · exact h1
    · omega
  generalize he : l[i] = e at *
  obtain ⟨k, w⟩ := e
  unfold evStep at h0 ⊢
  simp only at h0 ⊢
  by_cases hk : k = 0
  · subst hk
    rw [if_pos rfl] at h0 ⊢
    by_cases hc : w ≠ t.issued.length ∨ w ≥ n
    · rw [if_pos hc] at h0; exact absurd h0 (by simp)
    · rw [if_neg hc]
      have hw : w = t.issued.length := by omega
      subst hw
      have h1 := (h.not t.issued.length (.inr (Int.le_refl _)))
      have hsame : ∀ e, e ≠ ⟨0, t.issued.length⟩ → atEv (l.take (i + 1)) e = atEv (l.take i) e := fun e hne => by
        rw [hat]
        split
        · rename_i hl
          rw [if_neg (fun e' => hne e'.symm), hneg e hl]
        · rfl
      have hnew : atEv (l.take (i + 1)) ⟨0, t.issued.length⟩ = i := by rw [hat, h1.1, if_pos (by decide), if_pos rfl]
      refine ⟨by simp [h.len], by simp; omega, fun x hx => ?_, fun x hx => ?_, fun x hx => ?_, fun e hm => ?_⟩
      · simp only [List.length_append, List.length_singleton] at hx
        by_cases hxl : x < t.issued.length
        · rw [List.getElem_append_left hxl, hsame _ (by intro e'; cases e'; omega)]
          exact h.iss x hxl
        · have : x = t.issued.length := by omega
          subst this
          rw [List.getElem_append_right (Nat.le_refl _)]
          simp only [Nat.sub_self, List.getElem_cons_zero]
          exact ⟨hnew.symm, by omega⟩
      · simp only [List.length_append, List.length_singleton] at hx
        have := h.not x (by omega)
        rw [hsame _ (by intro e'; cases e'; omega), hsame _ (by intro e'; cases e')]
        exact this
      · simp only [List.length_append, List.length_singleton] at hx
        rw [hsame _ (by intro e'; cases e')]
        by_cases hxl : x < t.acked.length
        · rw [List.getElem_append_left hxl]; exact h.ack x hxl
        · have : x = t.acked.length := by omega
          subst this
          rw [List.getElem_append_right (Nat.le_refl _)]
          simp only [Nat.sub_self, List.getElem_cons_zero]
          rw [h.len]; exact h1.2.symm
      · simp only [List.length_append, List.length_singleton]
        rcases hmem e hm with hm | rfl
        · have := h.kind e hm; exact ⟨this.1, this.2.1, by omega⟩
        · exact ⟨.inl rfl, by simp only; omega, by simp only; omega⟩
  · rw [if_neg hk] at h0 ⊢
    by_cases hk1 : k = 1
    · subst hk1
      rw [if_pos rfl] at h0 ⊢
      by_cases hc : w < 0 ∨ w ≥ t.issued.length
      · rw [if_pos hc] at h0; exact absurd h0 (by simp)
      · rw [if_neg hc] at h0 ⊢
        obtain ⟨y, rfl⟩ := Int.eq_ofNat_of_zero_le (show 0 ≤ w by omega)
        have hy : y < t.acked.length := by have := h.len; omega
        by_cases ha : t.acked.getD (Int.toNat (y : Int)) 0 ≥ 0
        · rw [if_pos ha] at h0; exact absurd h0 (by simp)
        · rw [if_neg ha]
          have hy2 : t.acked.getD (Int.toNat (y : Int)) 0 = t.acked[y] := by simp [hy]
          rw [hy2, h.ack y hy] at ha
          have hm1 := hneg ⟨1, y⟩ (by omega)
          have hsame : ∀ e, e ≠ ⟨1, (y : Int)⟩ → atEv (l.take (i + 1)) e = atEv (l.take i) e := fun e hne => by
            rw [hat]
            split
            · rename_i hl
              rw [if_neg (fun e' => hne e'.symm), hneg e hl]
            · rfl
          have hnew : atEv (l.take (i + 1)) ⟨1, (y : Int)⟩ = i := by rw [hat, hm1, if_pos (by decide), if_pos rfl]
          refine ⟨by simp [h.len], h.le, fun x hx => ?_, fun x hx => ?_, fun x hx => ?_, fun e hm => ?_⟩
          · rw [hsame _ (by intro e'; cases e')]; exact h.iss x hx
          · have hx : x < 0 ∨ (t.issued.length : Int) ≤ x := hx
            have := h.not x hx
            rw [hsame _ (by intro e'; cases e'), hsame _ (by intro e'; cases e'; omega)]
            exact this
          · simp only [List.length_set] at hx
            simp only [Int.toNat_natCast, List.getElem_set]
            by_cases hxy : y = x
            · subst hxy; rw [if_pos rfl, hnew]
            · rw [if_neg hxy, hsame _ (by intro e'; cases e'; omega)]; exact h.ack x hx
          · rcases hmem e hm with hm | rfl
            · exact h.kind e hm
            · refine ⟨.inr rfl, by simp only; omega, ?_⟩; show (y : Int) < (t.issued.length : Int); omega
    · rw [if_neg hk1] at h0; exact absurd h0 (by simp)

theorem runEv_ok {n : Nat} {l : List Ev} : ∀ i : Nat, i ≤ l.length → (runEv n l i).1 = 0 → TlOk n (l.take i) (runEv n l i).2
  | 0, _, _ => by
    refine ⟨rfl, Nat.zero_le _, fun w h => absurd h (Nat.not_lt_zero _), fun w _ => ⟨rfl, rfl⟩, fun w h => absurd h (Nat.not_lt_zero _), fun e h => ?_⟩
    simp at h
  | i + 1, hi, h => by
    have hl : l[i]? = some l[i] := List.getElem?_eq_getElem (by omega)
    simp only [runEv, hl] at h ⊢
    split at h
    · rename_i hc; exact absurd h hc
    · rename_i hc
      rw [if_neg hc]
      have h0 : (runEv n l i).1 = 0 := by simpa using hc
      exact evStep_ok (by omega) (runEv_ok i (by omega) h0) h
end Sx
end
section
namespace Sx
theorem checkH_ok {h : Hist} (hc : (checkH h).1 = 0) : TlOk h.writes.length h.events (checkH h).2 ∧ (checkH h).2.issued.length = h.writes.length ∧ sizesErr h.sizes = 0 ∧ h.writes.length ≤ 4096 ∧ firstErr h.sizes h.writes = 0 := by
  unfold checkH at hc ⊢
  split at hc
  · rename_i h1; exact absurd hc h1
  · rename_i h1
    rw [if_neg h1]
    split at hc
    · exact absurd hc (by simp)
    · rename_i h2
      rw [if_neg h2]
      split at hc
      · rename_i h3; exact absurd hc h3
      · rename_i h3
        rw [if_neg h3]
        split at hc
        · rename_i h4; exact absurd hc h4
        · rename_i h4
          rw [if_neg h4]
          split at hc
          · exact absurd hc (by simp)
          · rename_i h5
            rw [if_neg h5]
            have := runEv_ok (n := h.writes.length) (l := h.events) h.events.length (Nat.le_refl _) (by simpa using h4)
            rw [List.take_length] at this
            exact ⟨this, by have := this.le; simp only at h5 ⊢; omega, by simpa using h1, by omega, by simpa using h3⟩
def beforeT (t : Tl) (a b : Int) : Bool := decide (t.acked.getD a.toNat 0 ≥ 0) && decide (t.acked.getD a.toNat 0 < t.issued.getD b.toNat 0)
def beforeR (l : List Ev) (a b : Int) : Bool := decide (atEv l ⟨1, a⟩ ≥ 0) && decide (atEv l ⟨1, a⟩ < atEv l ⟨0, b⟩)
theorem before_same {n : Nat} {l : List Ev} {t : Tl} (h : TlOk n l t) {a b : Int} (ha : 0 ≤ a ∧ a < t.issued.length) (hb : 0 ≤ b ∧ b < t.issued.length) : beforeT t a b = beforeR l a b := by
  obtain ⟨x, rfl⟩ := Int.eq_ofNat_of_zero_le ha.1
  obtain ⟨y, rfl⟩ := Int.eq_ofNat_of_zero_le hb.1
  have hx : x < t.acked.length := by have := h.len; omega
  have hy : y < t.issued.length := by omega
  have e1 : t.acked.getD (Int.toNat (x : Int)) 0 = atEv l ⟨1, x⟩ := by rw [← h.ack x hx]; simp [hx]
  have e2 : t.issued.getD (Int.toNat (y : Int)) 0 = atEv l ⟨0, y⟩ := by rw [← (h.iss y hy).1]; simp [hy]
  unfold beforeT beforeR
  rw [e1, e2]
def beforeH (h : Hist) (a b : Int) : Bool := decide ((checkH h).1 = 0) && beforeR h.events a b
def isSet (l : List Int) (n : Nat) : Bool := (List.range l.length).all fun i => decide (0 ≤ l.getD i 0) && decide (l.getD i 0 < n) && (decide (i = 0) || decide (l.getD (i - 1) 0 < l.getD i 0))
def closedR (h : Hist) (set : List Int) : Bool := set.all fun b => (List.range h.writes.length).all fun (a : Nat) => !beforeR h.events a b || set.contains (a : Int)
def closedH (h : Hist) (set : List Int) : Bool := decide ((checkH h).1 = 0) && isSet set h.writes.length && closedR h set
def ackedH (h : Hist) (n : Int) : List Int := if (checkH h).1 ≠ 0 then [] else ((List.range h.writes.length).map fun (a : Nat) => (a : Int)).filter fun a => decide (0 ≤ atEv h.events ⟨1, a⟩) && decide (atEv h.events ⟨1, a⟩ < n)
end Sx
end
section
namespace Sx
open Go RowKit
noncomputable def execT (P : Program) (cs : Ctrs) (U : FuncId → Bool) (n : Nat) : Conf → Tree :=
  Nat.rec (motive := fun _ => Conf → Tree) (fun c => .leaf c) (fun _ ih c => stepC P cs U ih c) n

section
variable {P : Program} {C : Ctx} {cs : Ctrs} {R : Value → World → Prop}

theorem execT_sound (hcs : cs.Ok P) (U : FuncId → Bool) : ∀ (n : Nat) (c : Conf), (execT P cs U n c).holds P C R → Runs P C c R
  | 0, _, h => h
  | n + 1, c, h => step_sound (U := U) (ih := execT P cs U n) hcs (fun c h => execT_sound hcs U n c h) c h
theorem runs_ret {fn : FuncId} {aw : Option Tmp} {k : List Item} {tmps : List SV} {mem : Mem} {f : Func} {l : List SV} (hfn : P.funcs[fn]? = some f) (hres : resS P mem tmps f.results.toList = some l)
    (h : ∀ E H w, Good C.fin mem E H w → (one? l).Ok H → R ((one? l).den E) w) (hrd : C.x.rd = false := by rfl) : Runs P C ⟨⟨fn, none, aw, .code .ret :: k, tmps⟩, [], mem⟩ R := by
  intro E H w g ok
  obtain ⟨h1, h2⟩ := run_results (P := P) g.take ok.1 hres
  show Go1 P (kindOf C.x) fn (.code .ret :: k) ⟨(SV.denL E tmps).toArray, marksOf C.x.df⟩ w R
  rw [show kindOf C.x = none by simp [kindOf, hrd]]
  exact Go1.ret hfn rfl g.fix.nodup (fun D hD => (g.fix.fx D _ (g.fix.mark D hD).2).1) h1 (h E H _ g.take h2)
def OwnR (w : World) (H : HV) (e : TypeId) (mk : D → D) (u : Value) (w' : World) : Prop :=
  ∃ E1 H' k h, u = (SV.vec k).den E1 ∧ Good ⟨w, H⟩ [(k, .arr e (mk h))] E1 H' w'
abbrev OSpec := List SV → Option (List Prop × TypeId × (D → D))

def OLaw (P : Program) (f : FuncId) (spec : OSpec) : Prop :=
  Bodied P f = true ∧ ∀ (H : HV) (E : Env) (args : List SV), SV.OkL H args →
    match spec args with
    | some (ps, e, mk) => (∀ p, p ∈ ps → p) → ∀ w, InMem H w → Calls P f (SV.denL E args).toArray w fun r w' => ∃ u, r = .returned u ∧ OwnR w H e mk u w'
    | none => True

def oCtr (spec : OSpec) : Ctr := fun args key m =>
  match spec (closeL (pubsR (leavesL args) m) args) with
  | some (ps, e, mk) => .all ps fun hs => (.vec key, (key, .arr e (mk (hs 0))) :: pubsR (leavesL args) m)
  | none => .bad

theorem keysEq_len : ∀ {a b : Mem}, keysEq a b = true → a.length = b.length
  | [], [], _ => rfl
  | [], _ :: _, h => by simp [keysEq] at h
  | _ :: _, [], h => by simp [keysEq] at h
  | _ :: r, _ :: s, h => by
    simp only [keysEq, Bool.and_eq_true] at h
    simp only [List.length_cons, keysEq_len h.2]

theorem oCtr_ro {spec : OSpec} : CtrRO (oCtr spec) := by
  intro args key m h
  unfold oCtr
  cases hs : spec (closeL (pubsR (leavesL args) m) args) with
  | none => trivial
  | some x =>
    obtain ⟨ps, e, mk⟩ := x
    simp only
    intro hs hk
    have := keysEq_len hk
    simp [pubsR_ro h] at this

theorem ownsRow_mono {w : World} {a b : Nat} {e : TypeId} {sz : Nat} {v : Value} {n : Nat} {xs : List Value} (h : w.ownsRow a e sz v n xs) (hb : b ≤ a) : w.ownsRow b e sz v n xs := by
  obtain ⟨h1, h2⟩ := h
  refine ⟨h1, h2.imp id fun ⟨g, cap, cur, h3, h4, h5⟩ => ⟨g, cap, cur, h3, Nat.le_trans hb h4, h5⟩⟩

theorem oCtr_ok {f : FuncId} {spec : OSpec} (h : OLaw P f spec) : CtrOk P f (oCtr spec) := by
  refine ⟨bodied_spec h.1, fun C E H w args key m g hargs hk hk2 => ?_, oCtr_ro⟩
  obtain ⟨H1, hle, g1, nw⟩ := pubsR_spec (leavesL args) g
  have hpm := pubsR_mem (leavesL args) (m := m)
  obtain ⟨e1, e2⟩ := closeL_spec g1 args (SV.OkL.mono hle _ hargs)
  have hl := h.2 H1 E _ e2
  unfold CallRight oCtr
  cases hs : spec (closeL (pubsR (leavesL args) m) args) with
  | none => simp
  | some x =>
    obtain ⟨ps, e, mk⟩ := x
    simp only [hs] at hl ⊢
    intro hp
    have hc := hl hp w g1.cell
    rw [e1] at hc
    refine Calls.mono hc fun r w' ⟨u, hr, E1, H', k, hd, hu, g2⟩ => ?_
    have g3 := g1.call g2.below g2.ext g2.fresh g2.cell
    have o2 := g2.own k _ (List.mem_singleton.2 rfl)
    have ha := E.agree_setV key (E1.b k) (E1.v k)
    have hk' := has_pubsR (leavesL args) hk
    have hbE : (E.setV key (E1.b k) (E1.v k)).b key = E1.b k := by simp [Env.setV]
    have hvE : (E.setV key (E1.b k) (E1.v k)).v key = E1.v k := by simp [Env.setV]
    obtain ⟨hh, sz, rows, q1, q2, q3, q4, q5, q6⟩ := o2
    have hlow : OBlk.Lies (.arr e (mk hd)) → w.heap.size ≤ E1.b k := by
      intro hl
      rw [q1] at hl q3
      simp only [OBlk.Lies, D.hd] at hl
      cases hh with
      | none => exact absurd rfl hl
      | some ac =>
        obtain ⟨a, c⟩ := ac
        obtain ⟨_, h3⟩ := q3
        have hq6 := (q6 a c rfl).1
        rcases h3 with ⟨h3, _⟩ | ⟨g', cap, cur, h3, h4, _⟩
        · simp [D.val, hval] at h3
        · simp only [D.val, hval, Value.slice.injEq, Option.some.injEq] at h3
          have h5 : E1.b k = g' := by have := h3.1; rw [hq6] at this; exact congrArg Addr.block this
          rw [h5]; exact h4
    have g4 : Good C ((key, .arr e (mk hd)) :: pubsR (leavesL args) m) (E.setV key (E1.b k) (E1.v k)) H' w' := by
      refine g3.cons hk' ha (Below.refl _ _) ⟨hh, sz, rows, q1, by rw [hvE]; exact q2, ownsRow_mono q3 g.below.size, q4, q5, fun a c hac => ?_⟩ (fun hl j p hj hlp => ?_)
      · rw [hbE]; exact q6 a c hac
      · rw [hbE]
        have h1 := hlow hl
        have h2 := (g1.own j p hj).lt hlp
        omega
    refine ⟨fun _ => hd, E.setV key (E1.b k) (E1.v k), H', by rw [hr, hu]; simp [SV.den, hvE], ha, hle.trans g2.ext, g4, by simp [SV.Ok], ?_⟩
    refine ⟨g2.below.size, fun b hb _ => g2.below.block b hb, fun b x v hx => ?_, fun j o hj => ?_, fun j o hj hl => ?_, g2.below.os, g2.below.tape, g2.below.output⟩
    · rcases g2.fresh b x v hx with h1 | h1
      · exact (nw b x v h1).imp id .inr
      · exact .inr (.inl h1)
    · rcases List.mem_cons.1 hj with hj | hj
      · exact Or.inl (congrArg Prod.fst hj)
      · exact .inr (hpm j o hj).1
    · rcases List.mem_cons.1 hj with hj | hj
      · have e1 : j = key := congrArg Prod.fst hj
        have e2 : o = .arr e (mk hd) := congrArg Prod.snd hj
        subst e1; subst e2
        rw [hbE]; exact .inl (hlow hl)
      · refine .inr ⟨j, o, (hpm j o hj).2 hl, hl, ?_⟩
        exact (ha.1 j (Mem.has_key hk' _ hj).1).1
theorem calls_of {f : FuncId} {H : HV} {args : List SV} {w : World} {R : Value → World → Prop} (hb : Bodied P f = true) (hok : SV.OkL H args) (E : Env) (hc : InMem H w)
    (h : Runs P ⟨w, H⟩ (entry P f args) R) : Calls P f (SV.denL E args).toArray w fun e w' => ∃ v, e = .returned v ∧ R v w' := by
  obtain ⟨fn, hfn, hbs, _⟩ := bodied_spec hb
  cases hbody : fn.body with
  | none => rw [hbody] at hbs; cases hbs
  | some b =>
    simp only [entry, hfn, hbody] at h
    have hr := h E H w (good_start hc E) ⟨okL_append hok (by rw [SV.OkL_iff]; intro x hx; rw [List.eq_of_mem_replicate hx]; simp [SV.Ok]), by simp⟩
    rw [stkRun_eq] at hr
    simp only [List.map_nil, restOf, SFrm.dn, dsOf, roOf, CFrm.run] at hr
    have e3 : (SV.denL E args).toArray ++ Array.replicate (fn.ntmps - (SV.denL E args).toArray.size) undef = (SV.denL E (args ++ List.replicate (fn.ntmps - args.length) .undef)).toArray := by
      simp [SV.denL_eq, SV.den, ← List.toArray_replicate]
    exact calls_of_go1 (P := P) (f := f) (args := (SV.denL E args).toArray) (w := w) hfn hbody (by rw [e3]; exact hr)
def spClone (α : Type) [Codec α] (e : TypeId) : OSpec := fun args => match args with
  | [x] => match rdD.read x with
    | some d => some ([d.Is α ∧ d.len ≤ 1048576], e, fun h => .slc h.hd (Codec.sz α) d.rows)
    | none => none
  | _ => none

theorem olaw_clone {f : FuncId} {α : Type} [Codec α] {e : TypeId} (hb : Bodied P f = true)
    (h : ∀ (H : HV) (w : World) (d : D), d.Ok H → d.Is α → d.len ≤ 1048576 → Runs P ⟨w, H⟩ (entry P f [.dat d]) (OwnR w H e fun h => .slc h.hd (Codec.sz α) d.rows)) : OLaw P f (spClone α e) := by
  refine ⟨hb, fun H E args hargs => ?_⟩
  unfold spClone
  split
  · rename_i heq
    split at heq
    · rename_i x
      split at heq
      · rename_i d hd
        cases heq
        intro hp w hc
        obtain ⟨h1, h2⟩ := rdD.right H E x d hd hargs.1
        obtain ⟨p1, p2⟩ := hp _ (List.mem_singleton.2 rfl)
        have := calls_of hb (args := [.dat d]) ⟨h2, trivial⟩ E hc (h H w d h2.1 p1 p2)
        have e1 : SV.denL E [x] = SV.denL E [.dat d] := by simp only [SV.denL]; rw [h1]; rfl
        rw [e1]
        exact this
      · cases heq
    · cases heq
  · trivial
theorem own_nil {w : World} {H : HV} {e : TypeId} {sz : Nat} {mk : D → D} {h : D} (hm : mk h = .slc none sz []) : (Tree.ret .nils).holds P ⟨w, H⟩ (OwnR w H e mk) := by
  refine ⟨rfl, fun E H' w' g _ => ?_⟩
  refine ⟨E.setV 0 0 (none, 0), H', 0, h, by simp [SV.den, Env.setV, hval], ?_⟩
  refine g.cons (by rfl) (E.agree_setV 0 0 (none, 0)) (Below.refl _ _) ?_ (fun _ j p hj _ => by cases hj)
  rw [hm]
  exact ⟨none, sz, [], rfl, by simp [Env.setV], World.ownsRow_nil w' _ e sz, by simp, by simp, by simp⟩
theorem own_ret {w : World} {H : HV} {e : TypeId} {mk : D → D} {fn : FuncId} {aw : Option Tmp} {k : List Item} {tmps : List SV} {mem : Mem} {f : Func} {j : Nat} {d h : D} (hfn : P.funcs[fn]? = some f)
    (hres : resS P mem tmps f.results.toList = some [.vec j]) (hmem : mem = [(j, .arr e d)]) (hd : d = mk h) : (Tree.leaf ⟨⟨fn, none, aw, .code .ret :: k, tmps⟩, [], mem⟩).holds P ⟨w, H⟩ (OwnR w H e mk) := by
  refine runs_ret hfn hres fun E H' w' g _ => ?_
  subst hmem
  subst hd
  exact ⟨E, H', j, h, rfl, g⟩
end
end Sx
end
section
open Go
namespace Sx
instance : Codec Sec where
  sz := 8
  ok r := ∃ a b c d e f g h, r = [.int .u8 a, .int .u8 b, .int .u8 c, .int .u8 d, .int .u8 e, .int .u8 f, .int .u8 g, .int .u8 h]
  dec r := match r with | [.int _ a, .int _ b, .int _ c, .int _ d, .int _ e, .int _ f, .int _ g, .int _ h] => ⟨a, b, c, d, e, f, g, h⟩ | _ => ⟨0, 0, 0, 0, 0, 0, 0, 0⟩
  enc s := [.int .u8 s.b0, .int .u8 s.b1, .int .u8 s.b2, .int .u8 s.b3, .int .u8 s.b4, .int .u8 s.b5, .int .u8 s.b6, .int .u8 s.b7]
  ok_enc s := ⟨_, _, _, _, _, _, _, _, rfl⟩
  dec_enc _ := rfl
  len r := by rintro ⟨_, _, _, _, _, _, _, _, rfl⟩; rfl
def encD {α : Type} [Codec α] (l : List α) : D := .slc none (Codec.sz α) (l.map Codec.enc)
theorem encD_is {α : Type} [Codec α] (l : List α) : (encD l).Is α := ⟨_, _, _, rfl, .inr rfl, fun r hr => by obtain ⟨x, _, rfl⟩ := List.mem_map.1 hr; exact Codec.ok_enc x⟩
theorem encD_to {α : Type} [Codec α] (l : List α) : (encD l).to α = l := by
  simp only [encD, D.to, D.rows, List.map_map]
  conv => rhs; rw [← List.map_id l]
  exact List.map_congr_left fun x _ => Codec.dec_enc x
instance : Codec Wt where
  sz := 3
  ok r := ∃ v s d, r = [.int .i64 v, .int .i64 s, d] ∧ d.Is Sec
  dec r := match r with | [.int _ v, .int _ s, d] => ⟨v, s, d.to Sec⟩ | _ => ⟨0, 0, []⟩
  enc w := [.int .i64 w.vol, .int .i64 w.start, encD w.data]
  ok_enc w := ⟨_, _, _, rfl, encD_is _⟩
  dec_enc w := by simp only [encD_to]
  len r := by rintro ⟨_, _, _, rfl, _⟩; rfl
instance : Codec Ev where
  sz := 2
  ok r := ∃ k w, r = [.int .i64 k, .int .i64 w]
  dec r := match r with | [.int _ k, .int _ w] => ⟨k, w⟩ | _ => ⟨0, 0⟩
  enc e := [.int .i64 e.kind, .int .i64 e.write]
  ok_enc e := ⟨_, _, rfl⟩
  dec_enc _ := rfl
  len r := by rintro ⟨_, _, rfl⟩; rfl
structure Vol where
  l : List Sec
deriving DecidableEq
instance : Codec Vol where
  sz := 1
  ok r := ∃ d, r = [d] ∧ d.Is Sec
  dec r := match r with | [d] => ⟨d.to Sec⟩ | _ => ⟨[]⟩
  enc v := [encD v.l]
  ok_enc v := ⟨_, rfl, encD_is _⟩
  dec_enc w := by simp only [encD_to]
  len r := by rintro ⟨_, rfl, _⟩; rfl
structure HiD where
  s : D
  w : D
  e : D
def HiD.hist (x : HiD) : Hist := ⟨x.s.to Int, x.w.to Wt, x.e.to Ev⟩
def HiD.Right (x : HiD) : Prop := x.s.Is Int ∧ x.w.Is Wt ∧ x.e.Is Ev ∧ x.s.len ≤ 1048576 ∧ x.w.len ≤ 1048576 ∧ x.e.len ≤ 1048576 ∧ ∀ w, w ∈ x.w.to Wt → w.data.length ≤ 1048576
def rdHi : Rd1 HiD where
  read x := match x with
    | .agg [s, w, e] => match rdD.read s, rdD.read w, rdD.read e with
      | some s, some w, some e => some ⟨s, w, e⟩
      | _, _, _ => none
    | _ => none
  canon h := .agg [.dat h.s, .dat h.w, .dat h.e]
  right H E x b h hok := by
    split at h
    · split at h
      · rename_i h1 h2 h3
        cases h
        obtain ⟨a1, a2, a3, _⟩ := hok
        obtain ⟨i1, i2⟩ := rdD.right H E _ _ h1 a1
        obtain ⟨j1, j2⟩ := rdD.right H E _ _ h2 a2
        obtain ⟨k1, k2⟩ := rdD.right H E _ _ h3 a3
        refine ⟨?_, i2, j2, k2, trivial⟩
        simp only [SV.den, SV.denL, i1, j1, k1]
        rfl
      · cases h
    · cases h
structure WtD where
  v : Int
  s : Int
  d : D
def WtD.wt (x : WtD) : Wt := ⟨x.v, x.s, x.d.to Sec⟩
def rdWt : Rd1 WtD where
  read x := match x with
    | .agg [.int .i64 v, .int .i64 s, d] => match rdD.read d with
      | some d => some ⟨v, s, d⟩
      | _ => none
    | _ => none
  canon h := .agg [.int .i64 h.v, .int .i64 h.s, .dat h.d]
  right H E x b h hok := by
    split at h
    · split at h
      · rename_i h1
        cases h
        obtain ⟨_, _, a3, _⟩ := hok
        obtain ⟨i1, i2⟩ := rdD.right H E _ _ h1 a3
        refine ⟨?_, trivial, trivial, i2, trivial⟩
        simp only [SV.den, SV.denL, i1]
        rfl
      · cases h
    · cases h
structure CkD where
  s : D
  w : D
  e : D
  i : D
  a : D
def rdCk : Rd1 CkD where
  read x := match x with
    | .agg [s, w, e, i, a] => match rdD.read s, rdD.read w, rdD.read e, rdD.read i, rdD.read a with
      | some s, some w, some e, some i, some a => some ⟨s, w, e, i, a⟩
      | _, _, _, _, _ => none
    | _ => none
  canon h := .agg [.dat h.s, .dat h.w, .dat h.e, .dat h.i, .dat h.a]
  right H E x b h hok := by
    split at h
    · split at h
      · rename_i h1 h2 h3 h4 h5
        cases h
        obtain ⟨a1, a2, a3, a4, a5, _⟩ := hok
        obtain ⟨i1, i2⟩ := rdD.right H E _ _ h1 a1
        obtain ⟨j1, j2⟩ := rdD.right H E _ _ h2 a2
        obtain ⟨k1, k2⟩ := rdD.right H E _ _ h3 a3
        obtain ⟨l1, l2⟩ := rdD.right H E _ _ h4 a4
        obtain ⟨m1, m2⟩ := rdD.right H E _ _ h5 a5
        refine ⟨?_, i2, j2, k2, l2, m2, trivial⟩
        simp only [SV.den, SV.denL, i1, j1, k1, l1, m1]
        rfl
      · cases h
    · cases h
end Sx
end
section
open Go
namespace Sx
abbrev tsJ : TS := .int .i64
abbrev tsSec : TS := .arr 8 (.int .u8)
abbrev tsWt : List TS := [tsJ, tsJ, .slc tsSec]
abbrev tsEv : List TS := [tsJ, tsJ]
abbrev tsHi : List TS := [.slc tsJ, .slc (.st tsWt), .slc (.st tsEv)]
abbrev tsSt : List TS := [.slc tsJ, .slc (.st tsWt), .slc (.st tsEv)]

theorem shJ {ds : List D} (h : TS.Sh tsJ ds) : ∃ n, ds = [.int .i64 n] := by
  simp only [TS.Sh] at h
  obtain ⟨n, h, _⟩ := h
  exact ⟨n, h⟩
theorem shSlc {e : TS} {ds : List D} (h : TS.Sh (.slc e) ds) : ∃ d, ds = [d] ∧ TS.Sh (.slc e) [d] := by
  have h' := h
  simp only [TS.Sh] at h
  obtain ⟨a, s, rows, rfl, _⟩ := h
  exact ⟨_, rfl, h'⟩
theorem shSl {α : Type} [Codec α] {e : TS} (hs : e.sz = Codec.sz α) (ho : ∀ r, e.Sh r → Codec.ok α r) {d : D} (h : TS.Sh (.slc e) [d]) : d.Is α ∧ d.IsSlc ∧ d.len ≤ maxLen := by
  simp only [TS.Sh] at h
  obtain ⟨a, s, rows, h1, h2, h3, h4⟩ := h
  simp only [List.cons.injEq, and_true] at h1
  subst h1
  exact ⟨⟨a, s, rows, rfl, h2.imp id fun h => by rw [h]; exact hs, fun r hr => ho r (h4 r hr)⟩, ⟨_, _, _, rfl⟩, h3⟩
theorem shU8 {l : List D} (h : TS.Sh (.int .u8) l) : ∃ n, l = [.int .u8 n] := by
  simp only [TS.Sh] at h
  obtain ⟨n, h, _⟩ := h
  exact ⟨n, h⟩
theorem shSec {ds : List D} (h : TS.Sh tsSec ds) : Codec.ok Sec ds := by
  simp only [TS.Sh] at h
  obtain ⟨l, rfl, h1, h2⟩ := h
  match l, h1 with
  | [r0, r1, r2, r3, r4, r5, r6, r7], _ =>
    obtain ⟨a, rfl, _⟩ := h2 r0 (by simp)
    obtain ⟨b, rfl, _⟩ := h2 r1 (by simp)
    obtain ⟨c, rfl, _⟩ := h2 r2 (by simp)
    obtain ⟨d, rfl, _⟩ := h2 r3 (by simp)
    obtain ⟨e, rfl, _⟩ := h2 r4 (by simp)
    obtain ⟨f, rfl, _⟩ := h2 r5 (by simp)
    obtain ⟨g, rfl, _⟩ := h2 r6 (by simp)
    obtain ⟨i, rfl, _⟩ := h2 r7 (by simp)
    exact ⟨_, _, _, _, _, _, _, _, rfl⟩
theorem shInts {d : D} (h : TS.Sh (.slc tsJ) [d]) : d.Is Int ∧ d.IsSlc ∧ d.len ≤ maxLen := shSl rfl (fun r hr => by obtain ⟨n, rfl⟩ := shJ hr; exact ⟨n, rfl⟩) h
theorem shSecs {d : D} (h : TS.Sh (.slc tsSec) [d]) : d.Is Sec ∧ d.IsSlc ∧ d.len ≤ maxLen := shSl rfl (fun r hr => shSec hr) h
theorem sh_wt {ds : List D} (h : TS.ShL tsWt ds) : ∃ v s d, ds = [.int .i64 v, .int .i64 s, d] ∧ d.Is Sec ∧ d.IsSlc := by
  simp only [tsWt, TS.ShL] at h
  obtain ⟨_, _, rfl, h1, _, _, rfl, h2, _, _, rfl, h3, rfl⟩ := h
  obtain ⟨v, rfl⟩ := shJ h1
  obtain ⟨s, rfl⟩ := shJ h2
  obtain ⟨d, rfl, h3⟩ := shSlc h3
  exact ⟨v, s, d, rfl, (shSecs h3).1, (shSecs h3).2.1⟩
theorem shWts {d : D} (h : TS.Sh (.slc (.st tsWt)) [d]) : d.Is Wt ∧ d.IsSlc ∧ d.len ≤ maxLen :=
  shSl rfl (fun r hr => by
    obtain ⟨v, s, d, rfl, h, _⟩ := sh_wt (by simpa only [TS.Sh] using hr)
    exact ⟨_, _, _, rfl, h⟩) h
end Sx
end
section
namespace Sx
open Go RowKit

structure Src where
  epoch : Int
  site : Int
  offered : List Int
  stored : Int
  applied : Int
deriving DecidableEq

structure Tgt where
  epoch : Int
  site : Int
  stored : Int
  applied : Int
deriving DecidableEq

structure Msg where
  kind : Int
  frm : Int
  to : Int
  number : Int
  value : Int
  epoch : Int
  values : List Int := []
  body : List Byte := []
deriving DecidableEq

def okTime (n : Int) : Bool := decide (n ≥ 0) && decide (n ≤ 1073741824)
def okSite (n : Int) : Bool := decide (n ≥ 0) && decide (n < 4)
def asc32 : Int → List Int → Bool
  | _, [] => true
  | l, x :: r => decide (l < x) && decide (x ≤ 1073741824) && asc32 x r

def okRight (e s a : Int) : Bool := okTime e && okSite s && okTime a

def checkSource (s : Src) : Int :=
  if okRight s.epoch s.site s.applied = false then 2
  else if s.offered.length > 1024 then 6
  else if asc32 s.applied s.offered = false then 3
  else if s.stored ≠ s.applied ∧ s.stored ∉ s.offered then 12
  else 0

def checkTarget (t : Tgt) : Int :=
  if okTime t.epoch = false ∨ okSite t.site = false then 2
  else if t.applied < 0 ∨ t.stored < t.applied ∨ t.stored > 1073741824 then 3
  else 0

def newSource (e s a : Int) : Src × Int := if okRight e s a then (⟨e, s, [], a, a⟩, 0) else (⟨0, 0, [], 0, 0⟩, 2)
def newTarget (e s a : Int) : Tgt × Int := if okRight e s a then (⟨e, s, a, a⟩, 0) else (⟨0, 0, 0, 0⟩, 2)

def zSrc : Src := ⟨0, 0, [], 0, 0⟩
def zTgt : Tgt := ⟨0, 0, 0, 0⟩
def toTarget (s : Src) (kind cycle : Int) : Msg := ⟨kind, 0, s.site, cycle, 0, s.epoch, [], []⟩
def toSource (t : Tgt) (kind cycle : Int) : Msg := ⟨kind, t.site, 0, 0, cycle, t.epoch, [], []⟩

def lastOf (a : Int) (l : List Int) : Int := l.getLastD a

def offer (s : Src) (c : Int) : Src × List Msg × Int :=
  if checkSource s ≠ 0 then (zSrc, [], checkSource s)
  else if c ≤ lastOf s.applied s.offered then (zSrc, [], 8)
  else if c > 1073741824 then (zSrc, [], 2)
  else if s.offered.length ≥ 1024 then (zSrc, [], 6)
  else ({ s with offered := s.offered ++ [c] }, [toTarget s 8 c], 0)

def store (t : Tgt) (c : Int) : Tgt × List Msg × Int :=
  if checkTarget t ≠ 0 then (zTgt, [], checkTarget t)
  else if c ≤ t.stored then (zTgt, [], 8)
  else if c > 1073741824 then (zTgt, [], 2)
  else ({ t with stored := c }, [toSource t 9 c], 0)

def applyT (t : Tgt) (c : Int) : Tgt × List Msg × Int :=
  if checkTarget t ≠ 0 then (zTgt, [], checkTarget t)
  else if c ≤ t.applied then (zTgt, [], 8)
  else if c > t.stored then (zTgt, [], 15)
  else ({ t with applied := c }, [toSource t 11 c], 0)

def answer (t : Tgt) (m : Msg) : Tgt × List Msg :=
  if checkTarget t ≠ 0 ∨ m.to ≠ t.site ∨ okTime m.epoch = false ∨ (m.kind ≠ 8 ∧ m.kind ≠ 10) then (t, [])
  else if m.epoch < t.epoch then (t, [toSource t 12 0])
  else
    let t' : Tgt := if m.epoch > t.epoch then { t with epoch := m.epoch, stored := t.applied } else t
    if m.kind = 8 then (t', [toSource t' 9 t'.stored]) else (t', [toSource t' 11 t'.applied])

def learn (s : Src) (m : Msg) : Src × List Msg :=
  if checkSource s ≠ 0 ∨ m.frm ≠ s.site ∨ m.epoch < s.epoch ∨ m.epoch > 1073741824 then (s, [])
  else if m.kind ≠ 9 ∧ m.kind ≠ 11 ∧ m.kind ≠ 12 then (s, [])
  else if m.epoch > s.epoch then ({ s with epoch := m.epoch, offered := [], stored := s.applied }, [])
  else if m.kind = 9 then
    if m.value ∈ s.offered ∧ m.value ≥ s.stored then ({ s with stored := m.value }, [toTarget s 10 m.value]) else (s, [])
  else if m.kind = 11 then
    if m.value ∈ s.offered then ({ s with applied := m.value, stored := max s.stored m.value, offered := s.offered.filter fun x => decide (x > m.value) }, []) else (s, [])
  else (s, [])

def resend (s : Src) : List Msg :=
  if checkSource s ≠ 0 then []
  else (if s.stored > s.applied then [toTarget s 10 s.stored] else []) ++ (s.offered.filter fun x => decide (x > s.stored)).map (toTarget s 8)

def releasable (s : Src) : Int := if checkSource s ≠ 0 then 0 else s.applied
end Sx
end
section
open Go
namespace Sx


noncomputable instance : Codec Msg where
  sz := 8
  ok r := ∃ a b c d e f v w, r = [.int .i64 a, .int .i64 b, .int .i64 c, .int .i64 d, .int .i64 e, .int .i64 f, v, w] ∧ v.Is Int ∧ w.Is Byte
  dec r := match r with
    | [.int _ a, .int _ b, .int _ c, .int _ d, .int _ e, .int _ f, v, w] => ⟨a, b, c, d, e, f, v.to Int, w.to Byte⟩
    | _ => ⟨0, 0, 0, 0, 0, 0, [], []⟩
  enc m := [.int .i64 m.kind, .int .i64 m.frm, .int .i64 m.to, .int .i64 m.number, .int .i64 m.value, .int .i64 m.epoch, D.like default m.values, D.like default m.body]
  ok_enc m := ⟨_, _, _, _, _, _, _, _, rfl, D.like_is _ _, D.like_is _ _⟩
  dec_enc m := by simp [D.like_to]
  len r := by rintro ⟨_, _, _, _, _, _, _, _, rfl, _⟩; rfl

@[simp] theorem sz_msg : Codec.sz Msg = 8 := rfl
@[simp] theorem ok_msg (a b c d e f : Int) : Codec.ok Msg [.int .i64 a, .int .i64 b, .int .i64 c, .int .i64 d, .int .i64 e, .int .i64 f, .slc none 0 [], .slc none 0 []] :=
  ⟨_, _, _, _, _, _, _, _, rfl, is_nil _ _, is_nil _ _⟩
@[simp] theorem dec_msg (a b c d e f : Int) : (Codec.dec [.int .i64 a, .int .i64 b, .int .i64 c, .int .i64 d, .int .i64 e, .int .i64 f, .slc none 0 [], .slc none 0 []] : Msg) = ⟨a, b, c, d, e, f, [], []⟩ := rfl

theorem msg_cell {d : D} (h : d.Is Msg) {i : Nat} (hi : i < (d.to Msg).length) :
    d.HasCells i 0 [.int .i64, .int .i64, .int .i64, .int .i64, .int .i64, .int .i64, .slc, .slc] ∧
    d.getInt i 0 = ((d.to Msg)[i]).kind ∧ d.getInt i 1 = ((d.to Msg)[i]).frm ∧ d.getInt i 2 = ((d.to Msg)[i]).to ∧ d.getInt i 3 = ((d.to Msg)[i]).number ∧
    d.getInt i 4 = ((d.to Msg)[i]).value ∧ d.getInt i 5 = ((d.to Msg)[i]).epoch ∧ (d.cell i 6).Is Int ∧ (d.cell i 6).to Int = ((d.to Msg)[i]).values ∧ (d.cell i 7).Is Byte ∧ (d.cell i 7).to Byte = ((d.to Msg)[i]).body := by
  obtain ⟨r, h1, ⟨a, b, c, d', e, f, v, w, rfl, hv, hw⟩, h3⟩ := h.row hi
  rw [h3]
  obtain ⟨p1, p2, p3, rfl⟩ := hv.slc
  obtain ⟨q1, q2, q3, rfl⟩ := hw.slc
  have e : ∀ j, d.cellAt i j = ([.int .i64 a, .int .i64 b, .int .i64 c, .int .i64 d', .int .i64 e, .int .i64 f, .slc p1 p2 p3, .slc q1 q2 q3] : List D)[j]? := fun j => by simp [D.cellAt, h1]
  simp only [D.HasCells, D.HasCell, D.getInt, D.cell, e]
  refine ⟨⟨⟨_, rfl⟩, ⟨_, rfl⟩, ⟨_, rfl⟩, ⟨_, rfl⟩, ⟨_, rfl⟩, ⟨_, rfl⟩, ⟨_, _, _, rfl⟩, ⟨_, _, _, rfl⟩, trivial⟩, rfl, rfl, rfl, rfl, rfl, rfl, hv, rfl, hw, rfl⟩
noncomputable def srcSV (d : D) (s : Src) : SV := .agg [.int .i64 s.epoch, .int .i64 s.site, .dat (d.like s.offered), .int .i64 s.stored, .int .i64 s.applied]
def tgtSV (t : Tgt) : SV := .agg [.int .i64 t.epoch, .int .i64 t.site, .int .i64 t.stored, .int .i64 t.applied]

structure SrcD where
  e : Int
  s : Int
  d : D
  st : Int
  ap : Int
def SrcD.src (x : SrcD) : Src := ⟨x.e, x.s, x.d.to Int, x.st, x.ap⟩

def rdSrc : Rd1 SrcD where
  read x := match x with
    | .agg [.int .i64 e, .int .i64 s, o, .int .i64 st, .int .i64 ap] => match rdD.read o with
      | some d => some ⟨e, s, d, st, ap⟩
      | none => none
    | _ => none
  canon x := .agg [.int .i64 x.e, .int .i64 x.s, .dat x.d, .int .i64 x.st, .int .i64 x.ap]
  right H E x b h hok := by
    split at h
    · split at h
      · rename_i hd
        cases h
        obtain ⟨h1, h2⟩ := rdD.right H E _ _ hd hok.2.2.1
        exact ⟨by simp only [SV.den, SV.denL, h1, rdD], trivial, trivial, h2, trivial, trivial, trivial⟩
      · cases h
    · cases h

def rdTgt : Rd1 Tgt where
  read x := match x with
    | .agg [.int .i64 e, .int .i64 s, .int .i64 st, .int .i64 ap] => some ⟨e, s, st, ap⟩
    | _ => none
  canon := tgtSV
  right H E x b h hok := by
    split at h
    · cases h; exact ⟨rfl, by simp [tgtSV, SV.Ok, SV.OkL]⟩
    · cases h

structure MsgD where
  a : Int
  b : Int
  c : Int
  d : Int
  e : Int
  f : Int
  v : D
  w : D
def MsgD.msg (x : MsgD) : Msg := ⟨x.a, x.b, x.c, x.d, x.e, x.f, x.v.to Int, x.w.to Byte⟩

def rdMsg : Rd1 MsgD where
  read x := match x with
    | .agg [.int .i64 a, .int .i64 b, .int .i64 c, .int .i64 d, .int .i64 e, .int .i64 f, v, w] => match rdD.read v, rdD.read w with
      | some v, some w => some ⟨a, b, c, d, e, f, v, w⟩
      | _, _ => none
    | _ => none
  canon x := .agg [.int .i64 x.a, .int .i64 x.b, .int .i64 x.c, .int .i64 x.d, .int .i64 x.e, .int .i64 x.f, .dat x.v, .dat x.w]
  right H E x b h hok := by
    split at h
    · split at h
      · rename_i hv hw
        cases h
        obtain ⟨h1, h2⟩ := rdD.right H E _ _ hv hok.2.2.2.2.2.2.1
        obtain ⟨h3, h4⟩ := rdD.right H E _ _ hw hok.2.2.2.2.2.2.2.1
        exact ⟨by simp only [SV.den, SV.denL, h1, h3, rdD], trivial, trivial, trivial, trivial, trivial, trivial, h2, h4, trivial⟩
      · cases h
    · cases h

def idxF (l : List Int) (n : Int) : Int := match l.findIdx? (fun x => n == x) with
  | some i => i
  | none => -1

def spHas32 (x : D × Int) : SpecR := .scalar [x.1.Is Int ∧ x.1.len ≤ 1048576] (.bool ((x.1.to Int).contains x.2))
def spIdx (x : D × Int) : SpecR := .scalar [x.1.Is Int ∧ x.1.len ≤ 1048576] (.int .i64 (idxF (x.1.to Int) x.2))
def spCS (x : SrcD) : SpecR := .scalar [x.d.Is Int] (.int .i64 (checkSource x.src))
def spRel (x : SrcD) : SpecR := .scalar [x.d.Is Int] (.int .i64 (releasable x.src))
def spCT (x : Tgt) : SpecR := .scalar [] (.int .i64 (checkTarget x))
def spSame (x : SrcD × SrcD) : SpecR := .scalar [x.1.d.Is Int ∧ x.2.d.Is Int ∧ x.1.d.len ≤ 1048576] (.bool (decide (x.1.src = x.2.src)))
def spToTarget (x : SrcD × Int × Int) : SpecR := .data [] fun _ => .agg [.int .i64 x.2.1, .int .i64 0, .int .i64 x.1.s, .int .i64 x.2.2, .int .i64 0, .int .i64 x.1.e, .nils, .nils]
noncomputable def spToSource (x : Tgt × Int × Int) : SpecR := .data [] fun ds => .dat ((ds 0).like [toSource x.1 x.2.1 x.2.2])
noncomputable def spOffered (x : Tgt) : SpecR := .data [] fun ds => .dat ((ds 0).like [toSource x 9 x.stored])
noncomputable def spCommitted (x : Tgt) : SpecR := .data [] fun ds => .dat ((ds 0).like [toSource x 11 x.applied])
noncomputable def spNewS (x : Int × Int × Int) : SpecR := .data [] fun ds => .tup [srcSV (ds 0) (newSource x.1 x.2.1 x.2.2).1, .int .i64 (newSource x.1 x.2.1 x.2.2).2]
def spNewT32 (x : Int × Int × Int) : SpecR := .data [] fun _ => .tup [tgtSV (newTarget x.1 x.2.1 x.2.2).1, .int .i64 (newTarget x.1 x.2.1 x.2.2).2]
noncomputable def spOffer (x : SrcD × Int) : SpecR := .data [x.1.d.Is Int] fun ds => .tup [srcSV (ds 0) (offer x.1.src x.2).1, .dat ((ds 1).like (offer x.1.src x.2).2.1), .int .i64 (offer x.1.src x.2).2.2]
noncomputable def spStore (f : Tgt → Int → Tgt × List Msg × Int) (x : Tgt × Int) : SpecR := .data [] fun ds => .tup [tgtSV (f x.1 x.2).1, .dat ((ds 0).like (f x.1 x.2).2.1), .int .i64 (f x.1 x.2).2.2]
noncomputable def spAnswer (x : Tgt × MsgD) : SpecR := .data [] fun ds => .tup [tgtSV (answer x.1 x.2.msg).1, .dat ((ds 0).like (answer x.1 x.2.msg).2)]
noncomputable def spLearn (x : SrcD × MsgD) : SpecR := .data [x.1.d.Is Int] fun ds => .tup [srcSV (ds 0) (learn x.1.src x.2.msg).1, .dat ((ds 1).like (learn x.1.src x.2.msg).2)]
noncomputable def spResend (x : SrcD) : SpecR := .data [x.d.Is Int] fun ds => .dat ((ds 0).like (resend x.src))
def spSameMsg (x : MsgD × MsgD) : SpecR := .scalar [x.1.v.Is Int ∧ x.2.v.Is Int ∧ x.1.w.Is Byte ∧ x.2.w.Is Byte ∧ x.1.v.len ≤ 1048576 ∧ x.1.w.to Byte = [] ∧ x.2.w.to Byte = []] (.bool (decide (x.1.msg = x.2.msg)))
noncomputable def spSameMsgs (x : D × D) : SpecR := .scalar [x.1.Is Msg ∧ x.2.Is Msg ∧ x.1.len ≤ 1048576 ∧ (∀ m, m ∈ x.1.to Msg → m.body = [] ∧ m.values = []) ∧ ∀ m, m ∈ x.2.to Msg → m.body = []] (.bool (decide (x.1.to Msg = x.2.to Msg)))
end Sx
end
section
namespace Sx
open Go RowKit
class Plain (α : Type) [Codec α] where
  cells : D → Nat → α → List D
  right : ∀ d i r, d.rows[i]? = some r → Codec.ok α r → cells d i (Codec.dec r) = r

section
variable {α : Type} [Codec α] [Plain α]

def plainRows (d : D) : Nat → List α → List (List D)
  | _, [] => []
  | i, x :: r => Plain.cells d i x :: plainRows d (i + 1) r

def D.plain (d : D) (l : List α) : D :=
  .slc d.hd (match l with | [] => d.sz | _ :: _ => Codec.sz α) (plainRows d 0 l)

theorem plainRows_eq (d : D) : ∀ (rows : List (List D)) (i : Nat), (∀ j, (h : j < rows.length) → d.rows[i + j]? = some rows[j]) → (∀ r, r ∈ rows → Codec.ok α r) →
    plainRows d i (rows.map (Codec.dec (α := α))) = rows
  | [], _, _, _ => rfl
  | r :: rs, i, h, ho => by
    simp only [List.map_cons, plainRows]
    rw [Plain.right d i r (h 0 (by simp)) (ho r (by simp)), plainRows_eq d rs (i + 1) (fun j hj => by have := h (j + 1) (by simpa using hj); simpa [Nat.add_assoc, Nat.add_comm 1 j] using this) fun r' hr' => ho r' (by simp [hr'])]

theorem plain_self {d : D} (h : d.Is α) : d.plain (d.to α) = d := by
  obtain ⟨a, b, c, rfl, h1, h2⟩ := h
  unfold D.plain D.to
  simp only [D.rows, D.hd]
  rw [plainRows_eq (α := α) (.slc a b c) c 0 (fun j hj => by simp [D.rows, hj]) h2]
  cases c with
  | nil => rfl
  | cons x r => rcases h1 with h1 | h1
                · cases h1
                · subst h1; rfl

theorem plain_like (d : D) (l : List α) : (d.like l).plain l = d.like l := by
  have := plain_self (D.like_is d l)
  rwa [D.like_to] at this
end

instance : Plain Int where
  cells _ _ n := [.int .i64 n]
  right d i r _ h := by obtain ⟨n, rfl⟩ := h; rfl

instance : Plain Byte where
  cells _ _ n := [.int .u8 n.n]
  right d i r _ h := by obtain ⟨n, rfl⟩ := h; rfl
def intRows : List (List D) → Bool
  | [] => true
  | r :: rs => match r with
    | [.int .i64 _] => intRows rs
    | _ => false
def D.allInt (d : D) : Bool :=
  match d with
  | .slc _ s rows => (match rows with | [] => true | _ :: _ => s == 1) && intRows rows
  | _ => false
theorem intRows_ok : ∀ (rows : List (List D)), intRows rows = true → ∀ r, r ∈ rows → Codec.ok Int r
  | [], _, r, h => by cases h
  | x :: rs, h, r, hr => by
    unfold intRows at h
    split at h
    · rcases List.mem_cons.1 hr with rfl | hr
      · exact ⟨_, rfl⟩
      · exact intRows_ok rs h r hr
    · cases h
theorem allInt_is {d : D} (h : d.allInt = true) : d.Is Int := by
  unfold D.allInt at h
  split at h
  · rename_i a s rows
    simp only [Bool.and_eq_true] at h
    refine ⟨_, _, _, rfl, ?_, intRows_ok _ h.2⟩
    cases rows with
    | nil => exact .inl rfl
    | cons x r => right; simpa using h.1
  · cases h
theorem law_alt {P : Program} {f : FuncId} {β : Type} {r : Rd β} {sp sp' : β → SpecR} (h : Law P f (r.sp sp))
    (hh : ∀ b, match sp' b with
      | .no => True
      | .data ps' g' => ∃ ps g, sp b = .data ps g ∧ ((∀ p, p ∈ ps' → p) → ∀ p, p ∈ ps → p) ∧ ∀ ds, ∃ ds', g' ds' = g ds
      | .scalar ps' v' => ∃ ps v, sp b = .scalar ps v ∧ ((∀ p, p ∈ ps' → p) → ∀ p, p ∈ ps → p) ∧ v' = v) : Law P f (r.sp sp') := by
  refine ⟨h.1, fun H E args hargs => ?_⟩
  have h2 := h.2 H E args hargs
  unfold Rd.sp at h2 ⊢
  cases hr : r.read args with
  | none => trivial
  | some b =>
    have hb := hh b
    rw [hr] at h2
    simp only at h2 ⊢
    cases hs : sp' b with
    | no => trivial
    | scalar ps' v' =>
      rw [hs] at hb
      obtain ⟨ps, v, e, h3, rfl⟩ := hb
      rw [e] at h2
      exact fun hp => h2 (h3 hp)
    | data ps' g' =>
      rw [hs] at hb
      obtain ⟨ps, g, e, h3, h4⟩ := hb
      rw [e] at h2
      intro hp w hw
      refine Calls.mono (h2 (h3 hp) w hw) fun e w' ⟨u, H', h5, h6, hs', h7, h8⟩ => ?_
      obtain ⟨ds', h9⟩ := h4 hs'
      exact ⟨u, H', h5, h6, ds', by rw [h9]; exact h7, by rw [h9]; exact h8⟩
end Sx
end
section
namespace Sx
open Go
noncomputable def Tree.dec : Tree → Tree
  | .leaf c => .leaf c
  | .ret v => .ret v
  | .br b t f => match b with
    | true => t.dec
    | false => f.dec
  | .need p t => .need p t.dec
  | .all f => .all fun hs => (f hs).dec
  | .stuck => .stuck

theorem Tree.dec_holds {P : Program} {C : Ctx} {R : Value → World → Prop} (t : Tree) : t.dec.holds P C R → t.holds P C R := by
  induction t with
  | leaf _ => exact id
  | ret _ => exact id
  | br b t f iht ihf =>
    intro h
    cases b with
    | true => exact ⟨fun _ => iht h, fun h' => absurd h' (by decide)⟩
    | false => exact ⟨fun h' => absurd h' (by decide), fun _ => ihf h⟩
  | need _ t ih => exact fun h => ⟨h.1, ih h.2⟩
  | all f ih => exact fun h hs => ih hs (h hs)
  | stuck => exact id

theorem dec_sound {P : Program} {C : Ctx} {R : Value → World → Prop} {cs : Ctrs} (hcs : cs.Ok P) (U : FuncId → Bool) (n : Nat) (c : Conf) {t : Tree}
    (e : (execU P cs U n c).dec = t) (h : t.holds P C R) : Runs P C c R :=
  execU_sound hcs U n c (Tree.dec_holds _ (by rw [e]; exact h))
end Sx
end
section
open Go
namespace Sx
def rdFn (f : FuncId) : Rd1 Unit where
  read x := match x with
    | .fn g [] [] => if g == f then some () else none
    | _ => none
  canon _ := .fn f [] []
  right H E x b h hok := by
    split at h
    · split at h
      · rename_i hg
        simp at hg
        subst hg
        exact ⟨rfl, trivial, trivial⟩
      · cases h
    · cases h
def rdNone : Rd Unit where
  read l := match l with | [] => some () | _ => none
  canon _ := []
  right H E args b h hok := by
    split at h
    · exact ⟨rfl, trivial⟩
    · cases h
def spTrue (_ : Unit) : SpecR := .scalar [] (.lb true)

def idxP (l : List Int) (p : Int → Bool) : Int := match l.findIdx? p with
  | some i => i
  | none => -1
theorem idxP_any (xs : List Int) (p : Int → Bool) : decide (idxP xs p ≥ 0) = xs.any p := by
  rw [Bool.eq_iff_iff]
  simp only [idxP, ge_iff_le, decide_eq_true_eq]
  cases hf : xs.findIdx? p with
  | none =>
    rw [List.findIdx?_eq_none_iff] at hf
    simp only
    constructor
    · intro h; omega
    · intro h
      obtain ⟨x, h1, h2⟩ := List.any_eq_true.1 h
      rw [hf x h1] at h2; cases h2
  | some i =>
    rw [List.findIdx?_eq_some_iff_getElem] at hf
    obtain ⟨hi, h1, _⟩ := hf
    have : xs.any p = true := List.any_eq_true.2 ⟨_, List.getElem_mem hi, h1⟩
    simp only [this, iff_true]
    omega

theorem ret_lbt {P : Program} {w : World} {H : HV} : (Tree.ret (.lb true)).holds P ⟨w, H⟩ (RetS w H (.lb true)) := ret_S fun _ _ => rfl
theorem law_sure {P : Program} {f : FuncId} {β : Type} {r : Rd β} {sp sp' : β → SpecR} (h : Law P f (r.sp sp))
    (hh : ∀ b, ∃ ps v ps', sp b = .scalar ps (.bool v) ∧ sp' b = .scalar ps' (.lb true) ∧ ((∀ p, p ∈ ps' → p) → (∀ p, p ∈ ps → p) ∧ v = true)) : Law P f (r.sp sp') := by
  refine ⟨h.1, fun H E args hargs => ?_⟩
  have h2 := h.2 H E args hargs
  unfold Rd.sp at h2 ⊢
  cases hr : r.read args with
  | none => trivial
  | some b =>
    obtain ⟨ps, v, ps', e1, e2, h3⟩ := hh b
    rw [hr] at h2
    simp only [e1] at h2
    simp only [e2]
    intro hp
    obtain ⟨h4, rfl⟩ := h3 hp
    have h5 := h2 h4
    simpa [SV.den] using h5

def iff (b : Bool) (s : SpecR) : SpecR := match b with | true => s | false => .no
def tabD {γ : Type} [DecidableEq γ] (v : γ) : List γ → (γ → SpecR) → SpecR
  | [], _ => .no
  | t :: r, k => match decide (v = t) with
    | true => k t
    | false => tabD v r k
theorem tabD_or {γ : Type} [DecidableEq γ] (v : γ) (k : γ → SpecR) : ∀ l, tabD v l k = .no ∨ tabD v l k = k v
  | [] => .inl rfl
  | t :: r => by
    unfold tabD
    cases h : decide (v = t) with
    | true => right; simp only [decide_eq_true_eq] at h; subst h; rfl
    | false => exact tabD_or v k r
theorem law_tab {P : Program} {f : FuncId} {β : Type} {r : Rd β} {sp : β → SpecR} {γ : Type} [DecidableEq γ] (h : Law P f (r.sp sp)) (c : β → Bool) (v : β → γ) (tab : List γ) (k : γ → SpecR)
    (hh : ∀ b, c b = true → match k (v b) with
      | .no => True
      | .data ps' g' => ∃ ps g, sp b = .data ps g ∧ ((∀ p, p ∈ ps' → p) → ∀ p, p ∈ ps → p) ∧ ∀ ds, ∃ ds', g' ds' = g ds
      | .scalar ps' v' => ∃ ps v, sp b = .scalar ps v ∧ ((∀ p, p ∈ ps' → p) → ∀ p, p ∈ ps → p) ∧ v' = v) :
    Law P f (r.sp fun b => iff (c b) (tabD (v b) tab k)) :=
  law_alt h fun b => by
    unfold iff
    cases hc : c b with
    | false => trivial
    | true =>
      simp only
      rcases tabD_or (v b) k tab with h1 | h1
      · rw [h1]; trivial
      · rw [h1]; exact hh b hc
theorem vecIn_to {P : Program} {C : Ctx} {R : Value → World → Prop} (K : Nat) (e : TypeId) (sz : Nat) (blk : Option Nat) (off : Nat) {c : Conf} (c' : Conf)
    (hc : (vecIn K e sz blk off c).map (fun c => sortC (renC c)) = some c') (h : Runs P C c' R) : Runs P C c R := by
  cases hv : vecIn K e sz blk off c with
  | none => rw [hv] at hc; cases hc
  | some c2 =>
    rw [hv] at hc
    cases hc
    exact vecIn_sound hv (renC_sound (sortC_sound h))




end Sx
end
section
open Go
namespace Sx
def zSec : Sec := ⟨0, 0, 0, 0, 0, 0, 0, 0⟩
def volOf (n : Int) : Vol := ⟨List.replicate n.toNat zSec⟩
def imgOf (l : List Int) : List Vol := if sizesErr l ≠ 0 then [] else l.map volOf
def volSizes (l : List Vol) : List Int := l.map fun v => (v.l.length : Int)
def fitsI (l : List Vol) (w : Wt) : Int := if sizesErr (volSizes l) ≠ 0 then sizesErr (volSizes l) else fitsErr (volSizes l) w
theorem sizesErr_ok {l : List Int} (h : sizesErr l = 0) : 1 ≤ l.length ∧ l.length ≤ 8 ∧ ∀ n, n ∈ l → 1 ≤ n ∧ n ≤ 4096 := by
  unfold sizesErr at h
  split at h
  · cases h
  · split at h
    · cases h
    · rename_i h1 h2
      refine ⟨by omega, by omega, fun n hn => ?_⟩
      simp only [Bool.not_eq_true, List.any_eq_false] at h2
      have := h2 n hn
      simp only [badSize, Bool.or_eq_false_iff, decide_eq_false_iff_not] at this
      omega
theorem volSizes_img {l : List Int} (h : sizesErr l = 0) : volSizes (imgOf l) = l := by
  unfold imgOf volSizes
  rw [if_neg (by simp [h]), List.map_map]
  conv => rhs; rw [← List.map_id l]
  refine List.map_congr_left fun n hn => ?_
  have := (sizesErr_ok h).2.2 n hn
  simp [volOf]; omega
theorem fitsI_img {l : List Int} (h : sizesErr l = 0) (w : Wt) : fitsI (imgOf l) w = fitsErr l w := by
  unfold fitsI
  rw [volSizes_img h, if_neg (by simp [h])]

theorem fitsErr_wt (l : List Int) (v s : Int) (e : D) : fitsErr l (WtD.wt ⟨v, s, e⟩) = if v < 0 ∨ v ≥ l.length then 7 else if (e.to Sec).length = 0 then 1
    else if s < 0 ∨ s > l.getD v.toNat 0 - (e.to Sec).length then 2 else 0 := rfl
theorem vol_cell {d : D} (h : d.Is Vol) {i : Nat} (hi : i < (d.to Vol).length) : d.HasCell i 0 .slc ∧ (d.cell i 0).Is Sec ∧ (d.to Vol)[i] = ⟨(d.cell i 0).to Sec⟩ := by
  obtain ⟨r, h1, ⟨x, rfl, hx⟩, h3⟩ := h.row hi
  have e : d.cellAt i 0 = some x := by simp [D.cellAt, h1]
  have e2 : d.cell i 0 = x := by simp [D.cell, e]
  rw [h3, e2]
  refine ⟨?_, hx, rfl⟩
  obtain ⟨a, b, c, rfl⟩ := hx.slc
  exact ⟨a, b, c, e⟩
theorem wt_cell {d : D} (h : d.Is Wt) {i : Nat} (hi : i < (d.to Wt).length) : d.HasCells i 0 [.int .i64, .int .i64, .slc] ∧ (d.cell i 2).Is Sec ∧ (d.to Wt)[i] = ⟨d.getInt i 0, d.getInt i 1, (d.cell i 2).to Sec⟩ := by
  obtain ⟨r, h1, ⟨a, b, x, rfl, hx⟩, h3⟩ := h.row hi
  have e2 : d.cell i 2 = x := by simp [D.cell, D.cellAt, h1]
  rw [h3, e2]
  obtain ⟨p, q, s, rfl⟩ := hx.slc
  refine ⟨?_, hx, ?_⟩
  · simp [D.HasCells, D.HasCell, D.cellAt, h1]
  · simp [D.getInt, D.cellAt, h1, Codec.dec]
theorem sec_cell {d : D} (h : d.Is Sec) {i : Nat} (hi : i < (d.to Sec).length) : d.HasCells i 0 [.int .u8, .int .u8, .int .u8, .int .u8, .int .u8, .int .u8, .int .u8, .int .u8] ∧
    (d.to Sec)[i] = ⟨d.getInt i 0, d.getInt i 1, d.getInt i 2, d.getInt i 3, d.getInt i 4, d.getInt i 5, d.getInt i 6, d.getInt i 7⟩ := by
  obtain ⟨r, h1, ⟨a, b, c, e, f, g, k, l, rfl⟩, h3⟩ := h.row hi
  rw [h3]
  simp [D.HasCells, D.HasCell, D.getInt, D.cellAt, h1, Codec.dec]
theorem zvol_is (h : Hd) (n : Int) : (D.slc h 8 (List.replicate n.toNat [D.int IntKind.u8 0, D.int IntKind.u8 0, D.int IntKind.u8 0, D.int IntKind.u8 0, D.int IntKind.u8 0, D.int IntKind.u8 0, D.int IntKind.u8 0, D.int IntKind.u8 0])).Is Sec ∧
    (D.slc h 8 (List.replicate n.toNat [D.int IntKind.u8 0, D.int IntKind.u8 0, D.int IntKind.u8 0, D.int IntKind.u8 0, D.int IntKind.u8 0, D.int IntKind.u8 0, D.int IntKind.u8 0, D.int IntKind.u8 0])).to Sec = List.replicate n.toNat zSec :=
  is_of rfl ⟨fun r hr => by rw [List.eq_of_mem_replicate hr]; exact ⟨0, 0, 0, 0, 0, 0, 0, 0, rfl⟩, by simp [List.map_replicate, Codec.dec, zSec]⟩
theorem vol_one {x : D} (hx : x.Is Sec) : SRows Vol [[x]] [⟨x.to Sec⟩] := rows_one ⟨x, rfl, hx⟩ rfl
theorem int_one (n : Int) : SRows Int [[.int .i64 n]] [n] := rows_one (ok_int n) rfl
theorem wt_one (v s : Int) {x : D} (hx : x.Is Sec) : SRows Wt [[.int .i64 v, .int .i64 s, x]] [⟨v, s, x.to Sec⟩] := rows_one ⟨v, s, x, rfl, hx⟩ rfl
theorem map_take_snoc {α β : Type} (f : α → β) {l : List α} {j : Nat} (h : j < l.length) : (l.take (j + 1)).map f = (l.take j).map f ++ [f l[j]] := by
  rw [List.take_succ_eq_append_getElem h, List.map_append]; rfl

section
variable {P : Program} {w : World} {H : HV}
theorem ret_one {α : Type} [Codec α] {X : SV} {l l' : List α} (hx : Stands α X l) (h : l = l') : (Tree.ret X).holds P ⟨w, H⟩ (RetD w H fun ds => .dat ((ds 0).like l')) := by
  subst h
  obtain ⟨d, h1, h2, h3, h4⟩ := hx
  refine ret_D (fun _ => d) (fun E E' => ?_) (fun H' ho => ?_)
  · rw [h1]; simp only [SV.den, D.like_self h2 h3]
  · simp only [SV.Ok, D.like_self h2 h3]; exact ⟨h4 _ ho, h2.slc⟩
theorem ret_oneI {α : Type} [Codec α] {X : SV} {l l' : List α} {k k' : Int} (hx : Stands α X l) (h : l = l') (hk : k = k') : (Tree.ret (.tup [X, .int .i64 k])).holds P ⟨w, H⟩ (RetD w H fun ds => .tup [.dat ((ds 0).like l'), .int .i64 k']) := by
  subst h; subst hk
  obtain ⟨d, h1, h2, h3, h4⟩ := hx
  refine ret_D (fun _ => d) (fun E E' => ?_) (fun H' ho => ?_)
  · simp only [SV.den, SV.denL, h1, D.like_self h2 h3]
  · simp only [SV.Ok, SV.OkL, D.like_self h2 h3] at ho ⊢; exact ⟨⟨h4 _ ho.1, h2.slc⟩, trivial, trivial⟩
end

def spIdxBad (x : D × Unit) : SpecR := .scalar [x.1.Is Int ∧ x.1.len ≤ 1048576] (.int .i64 (idxP (x.1.to Int) badSize))
def spAnyBad (x : D × Unit) : SpecR := .scalar [x.1.Is Int ∧ x.1.len ≤ 1048576] (.bool ((x.1.to Int).any badSize))
def spSizes (x : D) : SpecR := .scalar [x.Is Int ∧ x.len ≤ 1048576] (.int .i64 (sizesErr (x.to Int)))
noncomputable def spMapN (x : D × Unit) : SpecR := .data [x.1.Is Int ∧ x.1.len ≤ 8 ∧ ∀ n, n ∈ x.1.to Int → 0 ≤ n ∧ n ≤ 4096] fun ds => .dat ((ds 0).like ((x.1.to Int).map volOf))
noncomputable def spMapS (x : D × Unit) : SpecR := .data [x.1.Is Vol ∧ x.1.len ≤ 1048576] fun ds => .dat ((ds 0).like (volSizes (x.1.to Vol)))
noncomputable def spNewI (x : D) : SpecR := .data [x.Is Int ∧ x.len ≤ 1048576] fun ds => .tup [.dat ((ds 0).like (imgOf (x.to Int))), .int .i64 (sizesErr (x.to Int))]
noncomputable def spSzs (x : D) : SpecR := .data [x.Is Vol ∧ x.len ≤ 1048576] fun ds => .dat ((ds 0).like (volSizes (x.to Vol)))
def spChkI (x : D) : SpecR := .scalar [x.Is Vol ∧ x.len ≤ 1048576] (.int .i64 (sizesErr (volSizes (x.to Vol))))
def ImgOk (d : D) : Prop := d.Is Vol ∧ d.len ≤ 1048576 ∧ ∀ v, v ∈ d.to Vol → v.l.length ≤ 1048576
def WtD.Ok (x : WtD) : Prop := x.d.Is Sec ∧ x.d.len ≤ 1048576
def spFits1 (x : D × WtD) : SpecR := .scalar [ImgOk x.1 ∧ x.2.Ok] (.int .i64 (fitsErr (volSizes (x.1.to Vol)) x.2.wt))
def spFitsI (x : D × WtD) : SpecR := .scalar [ImgOk x.1 ∧ x.2.Ok] (.int .i64 (fitsI (x.1.to Vol) x.2.wt))
def spFitsR (x : D × WtD) : SpecR := .scalar [x.1.Is Int ∧ x.1.len ≤ 1048576 ∧ (∀ n, n ∈ x.1.to Int → 1 ≤ n ∧ n ≤ 4096) ∧ x.2.Ok] (.int .i64 (fitsErr (x.1.to Int) x.2.wt))
end Sx
end
section
open Go
namespace Sx
structure EvD where
  k : Int
  w : Int
def EvD.ev (x : EvD) : Ev := ⟨x.k, x.w⟩
def rdEv : Rd1 EvD where
  read x := match x with
    | .agg [.int .i64 k, .int .i64 w] => some ⟨k, w⟩
    | _ => none
  canon h := .agg [.int .i64 h.k, .int .i64 h.w]
  right H E x b h hok := by
    split at h
    · cases h; exact ⟨rfl, trivial, trivial, trivial⟩
    · cases h
def spAt (x : D × EvD) : SpecR := .scalar [x.1.Is Ev ∧ x.1.len ≤ 1048576] (.int .i64 (atEv (x.1.to Ev) x.2.ev))
def spIssE (n : Int) : SpecR := .data [] fun _ => .agg [.int .i64 0, .int .i64 n]
def spAckE (n : Int) : SpecR := .data [] fun _ => .agg [.int .i64 1, .int .i64 n]
def spInts (x : D × D) : SpecR := .scalar [x.1.Is Int ∧ x.2.Is Int ∧ x.1.len ≤ 1048576] (.bool (decide (x.1.to Int = x.2.to Int)))
def spEvs (x : D × D) : SpecR := .scalar [x.1.Is Ev ∧ x.2.Is Ev ∧ x.1.len ≤ 1048576] (.bool (decide (x.1.to Ev = x.2.to Ev)))
def spSecs (x : D × D) : SpecR := .scalar [x.1.Is Sec ∧ x.2.Is Sec ∧ x.1.len ≤ 1048576] (.bool (decide (x.1.to Sec = x.2.to Sec)))
def spWts (x : D × D) : SpecR := .scalar [x.1.Is Wt ∧ x.2.Is Wt ∧ x.1.len ≤ 1048576 ∧ ∀ w, w ∈ x.1.to Wt → w.data.length ≤ 1048576] (.bool (decide (x.1.to Wt = x.2.to Wt)))
def spHas (x : D × Int) : SpecR := .scalar [x.1.Is Int ∧ x.1.len ≤ 1048576] (.bool ((x.1.to Int).contains x.2))
def setUp (l : List Int) (n : Int) : Nat → Bool
  | 0 => true
  | i + 1 => setUp l n i && (decide (0 ≤ l.getD i 0) && (decide (l.getD i 0 < n) && (decide (i = 0) || decide (l.getD (i - 1) 0 < l.getD i 0))))
def setH (l : List Int) (n : Int) : Bool := setUp l n l.length
def spSet (x : D × Int) : SpecR := .scalar [x.1.Is Int ∧ x.1.len ≤ 1048576] (.bool (setH (x.1.to Int) x.2))
def spIsSet (x : CkD × D) : SpecR := .scalar [x.2.Is Int ∧ x.2.len ≤ 1048576 ∧ x.1.w.Is Wt] (.bool (setH (x.2.to Int) (x.1.w.to Wt).length))
def fewH (h : Hist) : Bool := decide (h.sizes.length ≤ 9) && (decide (h.writes.length ≤ 40) && (decide (h.events.length ≤ 90) && (h.sizes.all (fun n => decide (n ≤ 24)) && h.writes.all fun w => decide (w.data.length ≤ 30))))
def spFew (x : HiD) : SpecR := .scalar [x.s.Is Int ∧ x.w.Is Wt ∧ x.e.Is Ev] (.bool (fewH x.hist))
theorem same_not {α : Type} {a b : List α} (h : a ≠ b) [DecidableEq α] : false = decide (a = b) := by rw [decide_eq_false h]
theorem list_eq_of {α : Type} {a b : List α} {n : Nat} (h1 : a.length = b.length) (h2 : n = a.length) (h : a.take n = b.take n) : a = b := by
  subst h2; rwa [List.take_length, h1, List.take_length] at h
theorem take_succ_eq {α : Type} {a b : List α} {j : Nat} (h1 : j < a.length) (h2 : j < b.length) (h : a.take j = b.take j) (he : a[j] = b[j]) : a.take (j + 1) = b.take (j + 1) := by
  rw [List.take_succ_eq_append_getElem h1, List.take_succ_eq_append_getElem h2, h, he]
end Sx
end
section
open Go
namespace Sx
structure Cy where
  base : Int
  number : Int
  time : Int
  pos : List Int
  wr : List Wt
deriving DecidableEq
def cyBad (p : Option Wt) (w : Wt) : Bool := match p with
  | none => false
  | some x => decide (w.vol < x.vol) || (decide (w.vol = x.vol) && decide (w.start ≤ x.start + x.data.length))
def canonErr (sz : List Int) : Option Wt → List Wt → Int
  | _, [] => 0
  | p, w :: r => if fitsErr sz w ≠ 0 then fitsErr sz w else if cyBad p w = true then 3 else canonErr sz (some w) r
def coErr (l : List Wt) (sz : List Int) : Int := if sizesErr sz ≠ 0 then sizesErr sz else canonErr sz none l
def badTime (n : Int) : Bool := decide (n < 0) || decide (n > 1073741824)
def posErr (l : List Int) : Int := if l.length > 8 then 6 else if l.any badTime = true then 2 else 0
def cyErr (c : Cy) (sz : List Int) : Int :=
  if sizesErr sz ≠ 0 then sizesErr sz
  else if c.base < 0 ∨ c.number ≤ c.base ∨ c.number > 1073741824 then 2
  else if badTime c.time = true then 24
  else if posErr c.pos ≠ 0 then posErr c.pos
  else coErr c.wr sz
instance : Codec Cy where
  sz := 5
  ok r := ∃ b n t p w, r = [.int .i64 b, .int .i64 n, .int .i64 t, p, w] ∧ p.Is Int ∧ w.Is Wt
  dec r := match r with | [.int _ b, .int _ n, .int _ t, p, w] => ⟨b, n, t, p.to Int, w.to Wt⟩ | _ => ⟨0, 0, 0, [], []⟩
  enc c := [.int .i64 c.base, .int .i64 c.number, .int .i64 c.time, encD c.pos, encD c.wr]
  ok_enc c := ⟨_, _, _, _, _, rfl, encD_is _, encD_is _⟩
  dec_enc c := by simp only [encD_to]
  len r := by rintro ⟨_, _, _, _, _, rfl, _⟩; rfl
structure CyD where
  b : Int
  n : Int
  t : Int
  p : D
  w : D
def CyD.cy (x : CyD) : Cy := ⟨x.b, x.n, x.t, x.p.to Int, x.w.to Wt⟩
def CyD.Ok (x : CyD) : Prop := x.p.Is Int ∧ x.w.Is Wt ∧ x.p.len ≤ 1048576 ∧ x.w.len ≤ 1048576 ∧ ∀ w, w ∈ x.w.to Wt → w.data.length ≤ 1048576
def CyOk (c : Cy) : Prop := c.pos.length ≤ 1048576 ∧ c.wr.length ≤ 1048576 ∧ ∀ w, w ∈ c.wr → w.data.length ≤ 1048576
def rdCy : Rd1 CyD where
  read x := match x with
    | .agg [.int .i64 b, .int .i64 n, .int .i64 t, p, w] => match rdD.read p, rdD.read w with
      | some p, some w => some ⟨b, n, t, p, w⟩
      | _, _ => none
    | _ => none
  canon x := .agg [.int .i64 x.b, .int .i64 x.n, .int .i64 x.t, .dat x.p, .dat x.w]
  right H E x b h hok := by
    split at h
    · split at h
      · rename_i hp hw
        cases h
        obtain ⟨h1, h2⟩ := rdD.right H E _ _ hp hok.2.2.2.1
        obtain ⟨h3, h4⟩ := rdD.right H E _ _ hw hok.2.2.2.2.1
        exact ⟨by simp only [SV.den, SV.denL, h1, h3, rdD], trivial, trivial, trivial, h2, h4, trivial⟩
      · cases h
    · cases h
theorem cy_cell {d : D} (h : d.Is Cy) {i : Nat} (hi : i < (d.to Cy).length) :
    d.HasCells i 0 [.int .i64, .int .i64, .int .i64, .slc, .slc] ∧ (d.cell i 3).Is Int ∧ (d.cell i 4).Is Wt ∧
    (d.to Cy)[i] = (CyD.mk (d.getInt i 0) (d.getInt i 1) (d.getInt i 2) (d.cell i 3) (d.cell i 4)).cy := by
  obtain ⟨r, h1, ⟨b, n, t, p, w, rfl, hp, hw⟩, h3⟩ := h.row hi
  rw [h3]
  obtain ⟨p1, p2, p3, rfl, _⟩ := hp.slc
  obtain ⟨q1, q2, q3, rfl, _⟩ := hw.slc
  refine ⟨⟨⟨b, by simp [D.cellAt, h1]⟩, ⟨n, by simp [D.cellAt, h1]⟩, ⟨t, by simp [D.cellAt, h1]⟩, ⟨p1, p2, p3, by simp [D.cellAt, h1]⟩, ⟨q1, q2, q3, by simp [D.cellAt, h1]⟩, trivial⟩, ?_, ?_, ?_⟩
  · simpa [D.cell, D.cellAt, h1] using hp
  · simpa [D.cell, D.cellAt, h1] using hw
  · simp [CyD.cy, D.getInt, D.cell, D.cellAt, h1, Codec.dec]
def spCo (x : D × D) : SpecR := .scalar [x.1.Is Wt ∧ x.1.len ≤ 1048576 ∧ (∀ w, w ∈ x.1.to Wt → w.data.length ≤ 1048576) ∧ x.2.Is Int ∧ x.2.len ≤ 1048576] (.int .i64 (coErr (x.1.to Wt) (x.2.to Int)))
def posT (l : List Int) : Int := if l.any badTime = true then 2 else 0
def posL (l : List Int) (n : Int) : Int := if l.length < n ∨ l.length > 8 then 6 else if l.any badTime = true then 2 else 0
def spPos (x : D) : SpecR := .scalar [x.Is Int ∧ x.len ≤ 1048576] (.int .i64 (posT (x.to Int)))
def spPosL (x : D × Int) : SpecR := .scalar [x.1.Is Int ∧ x.1.len ≤ 1048576] (.int .i64 (posL (x.1.to Int) x.2))
def spCyCk (x : CyD × D) : SpecR := .scalar [x.1.Ok ∧ x.2.Is Int ∧ x.2.len ≤ 1048576] (.int .i64 (cyErr x.1.cy (x.2.to Int)))
def spCySame (x : CyD × CyD) : SpecR := .scalar [x.1.Ok ∧ x.2.Ok] (.bool (decide (x.1.cy = x.2.cy)))
def fewW (l : List Wt) : Bool := !((l.take 60).any fun w => decide (w.data.length > 24)) && decide (l.length ≤ 40)
def spFewW (x : D) : SpecR := .scalar [x.Is Wt] (.bool (fewW (x.to Wt)))
def fewC (c : Cy) : Bool := decide (c.pos.length ≤ 40) && fewW c.wr
def spFewC (x : CyD) : SpecR := .scalar [x.p.Is Int ∧ x.w.Is Wt] (.bool (fewC x.cy))
def most : List Int := List.replicate 8 4096
noncomputable def spMost (_ : Unit) : SpecR := .data [] fun ds => .dat ((ds 0).like most)
structure Rl where
  near : Tgt
  far : Tgt
  src : Src
  kept : List Cy
deriving DecidableEq
def zRl : Rl := ⟨zTgt, zTgt, zSrc, []⟩
def leadsI : List Cy → Int → Int × Bool
  | [], a => (a, true)
  | c :: r, a => if c.base > a then (c.number, false) else leadsI r c.number
def formedR (r : Rl) : Bool :=
  !(decide (r.near.site = r.far.site) || decide (r.src.site ≠ r.far.site) || decide (r.near.epoch ≠ r.far.epoch) || decide (r.near.epoch ≠ r.src.epoch)) &&
  !(decide (r.near.stored ≠ r.near.applied) || decide (r.far.stored ≠ r.src.stored) || decide (r.far.applied ≠ r.src.applied)) &&
  (r.kept.all fun c => decide (cyErr c most = 0)) && decide (r.kept.map Cy.number = r.src.offered) && (leadsI r.kept r.src.applied).2 && decide ((leadsI r.kept r.src.applied).1 ≤ r.near.applied)
def ckRl (r : Rl) : Int :=
  if checkTarget r.near ≠ 0 then checkTarget r.near else if checkTarget r.far ≠ 0 then checkTarget r.far else if checkSource r.src ≠ 0 then checkSource r.src
  else if formedR r = false then 3 else 0
def newRl (e n f a : Int) : Rl × Int :=
  if (newTarget e n a).2 ≠ 0 then (zRl, (newTarget e n a).2) else if (newTarget e f a).2 ≠ 0 then (zRl, (newTarget e f a).2)
  else if n = f then (zRl, 1) else (⟨(newTarget e n a).1, (newTarget e f a).1, (newSource e f a).1, []⟩, 0)
def lagRl (r : Rl) : Int := if ckRl r ≠ 0 then 0 else r.near.applied - r.far.applied
def frontRl (r : Rl) : Int := (r.kept.map Cy.number).getLastD r.src.applied
def applyRl (r : Rl) (c : Cy) : Rl × List Msg × Int :=
  if ckRl r ≠ 0 then (zRl, [], ckRl r) else if cyErr c most ≠ 0 then (zRl, [], cyErr c most)
  else if c.number ≤ r.near.applied then (zRl, [], 8) else if c.base > r.near.applied then (zRl, [], 15)
  else if c.base > frontRl r then ({ r with near := { r.near with stored := c.number, applied := c.number } }, [], 0)
  else if (offer r.src c.number).2.2 ≠ 0 then (zRl, [], (offer r.src c.number).2.2)
  else (⟨{ r.near with stored := c.number, applied := c.number }, r.far, (offer r.src c.number).1, r.kept ++ [c]⟩, (offer r.src c.number).2.1, 0)
def behindL (l : List Cy) (n : Int) : List Cy := l.filter fun c => decide (c.number > n)
def zCy : Cy := ⟨0, 0, 0, [], []⟩
def nextRl (r : Rl) : Cy × Bool := if ckRl r ≠ 0 then (zCy, false) else match behindL r.kept r.src.stored with
  | [] => (zCy, false)
  | c :: _ => (c, true)
def learnRl (r : Rl) (m : Msg) : Rl × List Msg :=
  if ckRl r ≠ 0 then (r, [])
  else
    let s := (learn r.src m).1
    if s.epoch > r.src.epoch then (⟨{ r.near with epoch := s.epoch }, { r.far with epoch := s.epoch, stored := s.stored, applied := s.applied }, s, []⟩, (learn r.src m).2)
    else (⟨r.near, { r.far with stored := s.stored, applied := s.applied }, s, behindL r.kept s.applied⟩, (learn r.src m).2)
noncomputable def spOff (x : D) : SpecR := .data [x.Is Cy ∧ x.len ≤ 1048576] fun ds => .dat ((ds 0).like ((x.to Cy).map Cy.number))
end Sx
end
section
open Go
namespace Sx
def onOk (e : Int) (d : D) : D := if e = 0 then d else .slc none 0 []
noncomputable def ckSV (x : HiD) (ds : Nat → D) : SV := .tup [.agg [.dat (onOk (checkH x.hist).1 x.s), .dat (onOk (checkH x.hist).1 x.w), .dat (onOk (checkH x.hist).1 x.e), .dat ((ds 0).like (checkH x.hist).2.issued), .dat ((ds 1).like (checkH x.hist).2.acked)], .int .i64 (checkH x.hist).1]
noncomputable def spCk (x : HiD) : SpecR := .data [x.Right] (ckSV x)
def spCkI (x : HiD) : SpecR := .scalar [x.Right] (.int .i64 (checkH x.hist).1)

section
variable {P : Program} {w : World} {H : HV}
end
end Sx
end
section
open Go
namespace Sx
noncomputable def hiSV (ds : Nat → D) (h : Hist) : SV := .agg [.dat ((ds 0).like h.sizes), .dat ((ds 1).like h.writes), .dat ((ds 2).like h.events)]
noncomputable def spCopy (x : HiD) : SpecR := .data [x.Right] fun ds => hiSV ds x.hist
theorem slc_same {α : Type} [Codec α] {d : D} (h : d.Is α) (hd : Hd) {s : Nat} (hs : s = Codec.sz α) : (D.slc hd s d.rows).Is α ∧ (D.slc hd s d.rows).to α = d.to α := is_of hs (rows_of h)
section
variable {P : Program} {w : World} {H : HV}
theorem ret_hiI {X Y Z : SV} {s : List Int} {ws : List Wt} {es : List Ev} {h : Hist} {k k' : Int} (hx : Stands Int X s) (hy : Stands Wt Y ws) (hz : Stands Ev Z es) (e : h = ⟨s, ws, es⟩) (hk : k = k') :
    (Tree.ret (.tup [.agg [X, Y, Z], .int .i64 k])).holds P ⟨w, H⟩ (RetD w H fun ds => .tup [hiSV ds h, .int .i64 k']) := by
  subst e; subst hk
  obtain ⟨d, h1, h2, h3, h4⟩ := hx
  obtain ⟨d', h1', h2', h3', h4'⟩ := hy
  obtain ⟨d'', h1'', h2'', h3'', h4''⟩ := hz
  refine ret_D (fun i => match i with | 0 => d | 1 => d' | _ => d'') (fun E E' => ?_) (fun H' ho => ?_)
  · simp only [hiSV, SV.den, SV.denL, D.like_self h2 h3, D.like_self h2' h3', D.like_self h2'' h3'', h1, h1', h1'']
  · simp only [hiSV, SV.Ok, SV.OkL, D.like_self h2 h3, D.like_self h2' h3', D.like_self h2'' h3''] at ho ⊢
    exact ⟨⟨⟨h4 _ ho.1.1, h2.slc⟩, ⟨h4' _ ho.1.2.1, h2'.slc⟩, ⟨h4'' _ ho.1.2.2.1, h2''.slc⟩, trivial⟩, trivial, trivial⟩
theorem ret_hiII {X Y Z : SV} {s : List Int} {ws : List Wt} {es : List Ev} {h : Hist} {k k' m m' : Int} (hx : Stands Int X s) (hy : Stands Wt Y ws) (hz : Stands Ev Z es) (e : h = ⟨s, ws, es⟩) (hk : k = k') (hm : m = m') :
    (Tree.ret (.tup [.agg [X, Y, Z], .int .i64 k, .int .i64 m])).holds P ⟨w, H⟩ (RetD w H fun ds => .tup [hiSV ds h, .int .i64 k', .int .i64 m']) := by
  subst e; subst hk; subst hm
  obtain ⟨d, h1, h2, h3, h4⟩ := hx
  obtain ⟨d', h1', h2', h3', h4'⟩ := hy
  obtain ⟨d'', h1'', h2'', h3'', h4''⟩ := hz
  refine ret_D (fun i => match i with | 0 => d | 1 => d' | _ => d'') (fun E E' => ?_) (fun H' ho => ?_)
  · simp only [hiSV, SV.den, SV.denL, D.like_self h2 h3, D.like_self h2' h3', D.like_self h2'' h3'', h1, h1', h1'']
  · simp only [hiSV, SV.Ok, SV.OkL, D.like_self h2 h3, D.like_self h2' h3', D.like_self h2'' h3''] at ho ⊢
    exact ⟨⟨⟨h4 _ ho.1.1, h2.slc⟩, ⟨h4' _ ho.1.2.1, h2'.slc⟩, ⟨h4'' _ ho.1.2.2.1, h2''.slc⟩, trivial⟩, trivial, trivial, trivial⟩
end
def zHist : Hist := ⟨[], [], []⟩
def newH (s : List Int) : Hist × Int := if sizesErr s ≠ 0 then (zHist, sizesErr s) else (⟨s, [], []⟩, 0)
noncomputable def spNewH (x : D) : SpecR := .data [x.Is Int ∧ x.len ≤ 1048576] fun ds => .tup [hiSV ds (newH (x.to Int)).1, .int .i64 (newH (x.to Int)).2]
def issueH (h : Hist) (w : Wt) : Hist × Int × Int :=
  if (checkH h).1 ≠ 0 then (zHist, 0, (checkH h).1) else if h.writes.length ≥ 4096 then (zHist, 0, 6)
  else if fitsErr h.sizes w ≠ 0 then (zHist, 0, fitsErr h.sizes w) else (⟨h.sizes, h.writes ++ [w], h.events ++ [⟨0, h.writes.length⟩]⟩, h.writes.length, 0)
noncomputable def spIssueH (x : HiD × WtD) : SpecR := .data [x.1.Right ∧ x.1.e.len ≤ 1000000 ∧ x.2.Ok] fun ds => .tup [hiSV ds (issueH x.1.hist x.2.wt).1, .int .i64 (issueH x.1.hist x.2.wt).2.1, .int .i64 (issueH x.1.hist x.2.wt).2.2]
def ackH (h : Hist) (n : Int) : Hist × Int :=
  if (checkH h).1 ≠ 0 then (zHist, (checkH h).1) else if n < 0 ∨ n ≥ h.writes.length then (zHist, 7)
  else if atEv h.events ⟨1, n⟩ ≥ 0 then (zHist, 8) else (⟨h.sizes, h.writes, h.events ++ [⟨1, n⟩]⟩, 0)
noncomputable def spAckH (x : HiD × Int) : SpecR := .data [x.1.Right ∧ x.1.e.len ≤ 1000000] fun ds => .tup [hiSV ds (ackH x.1.hist x.2).1, .int .i64 (ackH x.1.hist x.2).2]
theorem img_ok {l : List Int} (h1 : sizesErr l = 0) (d : D) : ImgOk (d.like (imgOf l)) := by
  refine ⟨D.like_is _ _, ?_, fun v hv => ?_⟩
  · rw [D.Is.length (α := Vol), D.like_to]
    unfold imgOf
    rw [if_neg (by simp [h1])]
    have := sizesErr_ok h1
    simp only [List.length_map]; omega
  · rw [D.like_to] at hv
    unfold imgOf at hv
    rw [if_neg (by simp [h1])] at hv
    obtain ⟨n, hn, rfl⟩ := List.mem_map.1 hv
    have := (sizesErr_ok h1).2.2 n hn
    simp only [volOf, List.length_replicate]; omega
def spSameH (x : HiD × HiD) : SpecR := .scalar [x.1.Right ∧ x.2.s.Is Int ∧ x.2.w.Is Wt ∧ x.2.e.Is Ev] (.bool (decide (x.1.hist = x.2.hist)))
end Sx
end
section
open Go
namespace Sx
def idxG {α : Type} (l : List α) (p : α → Bool) : Int := match l.findIdx? p with
  | some i => i
  | none => -1
theorem idxG_any {α : Type} (xs : List α) (p : α → Bool) : decide (idxG xs p ≥ 0) = xs.any p := by
  unfold idxG
  cases h : xs.findIdx? p with
  | none =>
    rw [List.findIdx?_eq_none_iff] at h
    rw [show xs.any p = false from by rw [List.any_eq_false]; exact fun x hx => by simp [h x hx]]
    rfl
  | some i =>
    rw [List.findIdx?_eq_some_iff_getElem] at h
    obtain ⟨h1, h2, _⟩ := h
    rw [show xs.any p = true from List.any_eq_true.2 ⟨_, List.getElem_mem h1, h2⟩]
    simp only [decide_eq_true_eq]
    omega
theorem idxG_hit {α : Type} {l : List α} {p : α → Bool} {j : Nat} (hj : j < l.length) (hpre : (l.take j).findIdx? p = none) (hb : p l[j] = true) : idxG l p = j := by
  have : l.findIdx? p = some j := by
    rw [List.findIdx?_eq_some_iff_getElem]
    refine ⟨hj, hb, fun i hi => ?_⟩
    rw [List.findIdx?_eq_none_iff] at hpre
    have := hpre l[i] (List.mem_take_iff_getElem.2 ⟨i, by omega, rfl⟩)
    simp [this]
  unfold idxG; rw [this]
theorem idxG_miss {α : Type} {l : List α} {p : α → Bool} {j : Nat} (hj : j < l.length) (hpre : (l.take j).findIdx? p = none) (hb : p l[j] = false) : (l.take (j + 1)).findIdx? p = none := by
  rw [List.take_succ_eq_append_getElem hj, List.findIdx?_append, hpre]
  simp [hb]
theorem idxG_none {α : Type} {l : List α} {p : α → Bool} (hpre : (l.take l.length).findIdx? p = none) : idxG l p = -1 := by
  rw [List.take_length] at hpre
  unfold idxG; rw [hpre]
def asc (l : List Int) : Bool := (List.range (l.length - 1)).all fun i => decide (l.getD i 0 < l.getD (i + 1) 0)

def spAsc (d : D) : SpecR := .scalar [d.Is Int ∧ d.len ≤ 1048576] (.bool (asc (d.to Int)))
def spIxI (x : D × Int) : SpecR := .scalar [x.1.Is Int ∧ x.1.len ≤ 1048576] (.int .i64 (idxG (x.1.to Int) fun y => decide (x.2 = y)))
def spIxB (x : D × Bool) : SpecR := .scalar [x.1.Is Bool ∧ x.1.len ≤ 1048576] (.int .i64 (idxG (x.1.to Bool) fun y => decide (x.2 = y)))
def spHasB (x : D × Bool) : SpecR := .scalar [x.1.Is Bool ∧ x.1.len ≤ 1048576] (.bool ((x.1.to Bool).any fun y => decide (x.2 = y)))
end Sx
end
section
open Go
namespace Sx
theorem leads_snoc : ∀ (l : List Cy) (a : Int) (c : Cy), leadsI (l ++ [c]) a = if (leadsI l a).2 = true then (c.number, !decide (c.base > (leadsI l a).1)) else leadsI l a
  | [], a, c => by
    show (if c.base > a then (c.number, false) else (c.number, true)) = _
    by_cases h : c.base > a
    · rw [if_pos h]; simp [leadsI, h]
    · rw [if_neg h]; simp [leadsI, h]
  | x :: r, a, c => by
    show (if x.base > a then (x.number, false) else leadsI (r ++ [c]) x.number) = _
    by_cases h : x.base > a
    · rw [if_pos h]
      have e : leadsI (x :: r) a = (x.number, false) := by show (if x.base > a then _ else _) = _; rw [if_pos h]
      rw [e]; simp
    · rw [if_neg h]
      have e : leadsI (x :: r) a = leadsI r x.number := by show (if x.base > a then _ else _) = _; rw [if_neg h]
      rw [e]
      exact leads_snoc r x.number c
theorem leads_bad : ∀ (l r : List Cy) (a : Int), (leadsI l a).2 = false → leadsI (l ++ r) a = leadsI l a
  | [], _, _, h => by cases h
  | x :: l, r, a, h => by
    by_cases hb : x.base > a
    · show (if x.base > a then _ else _) = (if x.base > a then _ else _); rw [if_pos hb, if_pos hb]
    · have e : leadsI (x :: l) a = leadsI l x.number := by show (if x.base > a then _ else _) = _; rw [if_neg hb]
      rw [e] at h ⊢
      show (if x.base > a then _ else leadsI (l ++ r) x.number) = _
      rw [if_neg hb]
      exact leads_bad l r x.number h
theorem leads_cut {l : List Cy} {a : Int} {j : Nat} (h : (leadsI (l.take j) a).2 = false) : leadsI l a = leadsI (l.take j) a := by
  conv => lhs; rw [← List.take_append_drop j l]
  exact leads_bad _ _ _ h
def lastW : Option Wt → List Wt → Option Wt
  | p, [] => p
  | _, x :: l => lastW (some x) l
theorem lastW_snoc : ∀ (l : List Wt) (p : Option Wt) (x : Wt), lastW p (l ++ [x]) = some x
  | [], _, _ => rfl
  | _ :: l, _, x => lastW_snoc l _ x
theorem canon_snoc (sz : List Int) : ∀ (l : List Wt) (p : Option Wt) (w : Wt), canonErr sz p (l ++ [w]) = if canonErr sz p l ≠ 0 then canonErr sz p l else if fitsErr sz w ≠ 0 then fitsErr sz w else if cyBad (lastW p l) w = true then 3 else 0
  | [], p, w => by
    show (if fitsErr sz w ≠ 0 then fitsErr sz w else if cyBad p w = true then 3 else 0) = if (0 : Int) ≠ 0 then (0 : Int) else _
    rw [if_neg (show ¬(0 : Int) ≠ 0 by simp)]; rfl
  | x :: l, p, w => by
    have e1 : canonErr sz p (x :: l) = if fitsErr sz x ≠ 0 then fitsErr sz x else if cyBad p x = true then 3 else canonErr sz (some x) l := rfl
    have e2 : canonErr sz p (x :: l ++ [w]) = if fitsErr sz x ≠ 0 then fitsErr sz x else if cyBad p x = true then 3 else canonErr sz (some x) (l ++ [w]) := rfl
    rw [e2, e1]
    by_cases h1 : fitsErr sz x ≠ 0
    · rw [if_pos h1, if_pos h1, if_pos h1]
    · rw [if_neg h1, if_neg h1]
      by_cases h2 : cyBad p x = true
      · rw [if_pos h2, if_pos h2, if_pos (by decide)]
      · rw [if_neg h2, if_neg h2]
        exact canon_snoc sz l (some x) w
theorem canon_cut (sz : List Int) : ∀ (l r : List Wt) (p : Option Wt), canonErr sz p l ≠ 0 → canonErr sz p (l ++ r) = canonErr sz p l
  | [], _, _, h => absurd rfl h
  | x :: l, r, p, h => by
    have e1 : canonErr sz p (x :: l) = if fitsErr sz x ≠ 0 then fitsErr sz x else if cyBad p x = true then 3 else canonErr sz (some x) l := rfl
    have e2 : canonErr sz p (x :: l ++ r) = if fitsErr sz x ≠ 0 then fitsErr sz x else if cyBad p x = true then 3 else canonErr sz (some x) (l ++ r) := rfl
    rw [e1] at h
    rw [e2, e1]
    by_cases h1 : fitsErr sz x ≠ 0
    · rw [if_pos h1, if_pos h1]
    · rw [if_neg h1] at h ⊢
      rw [if_neg h1]
      by_cases h2 : cyBad p x = true
      · rw [if_pos h2, if_pos h2]
      · rw [if_neg h2] at h ⊢
        rw [if_neg h2]
        exact canon_cut sz l r (some x) h
theorem canon_take {sz : List Int} {l : List Wt} {j : Nat} (h : canonErr sz none (l.take j) ≠ 0) : canonErr sz none l = canonErr sz none (l.take j) := by
  conv => lhs; rw [← List.take_append_drop j l]
  exact canon_cut sz _ _ _ h
theorem lastW_take {l : List Wt} {j : Nat} (hj : j < l.length) : lastW none (l.take (j + 1)) = some l[j] := by
  rw [List.take_succ_eq_append_getElem hj]; exact lastW_snoc _ _ _
def spIxT (x : D × Unit) : SpecR := .scalar [x.1.Is Int ∧ x.1.len ≤ 1048576] (.int .i64 (idxG (x.1.to Int) badTime))
end Sx
end
section
open Go
namespace Sx
def restartRl (r : Rl) (epoch applied : Int) : Rl × Int :=
  if ckRl r ≠ 0 then (zRl, ckRl r) else if epoch < r.near.epoch then (zRl, 13)
  else if epoch > 1073741824 ∨ applied < 0 ∨ applied > r.near.applied then (zRl, 2)
  else if (leadsI (behindL r.kept applied) applied).2 = false ∨ (leadsI (behindL r.kept applied) applied).1 ≠ r.near.applied then (zRl, 15)
  else (⟨{ r.near with epoch := epoch }, { r.far with epoch := epoch, stored := applied, applied := applied }, ⟨epoch, r.src.site, (behindL r.kept applied).map Cy.number, applied, applied⟩, behindL r.kept applied⟩, 0)
theorem leads_tail {c : Cy} {l : List Cy} {a : Int} (h : (leadsI (c :: l) a).2 = true) : c.base ≤ a ∧ (leadsI l c.number).2 = true := by
  by_cases hb : c.base > a
  · have e : leadsI (c :: l) a = (c.number, false) := by show (if c.base > a then _ else _) = _; rw [if_pos hb]
    rw [e] at h; cases h
  · have e : leadsI (c :: l) a = leadsI l c.number := by show (if c.base > a then _ else _) = _; rw [if_neg hb]
    rw [e] at h
    exact ⟨by omega, h⟩
theorem behind_end : ∀ (l : List Cy) (a x : Int), (leadsI l x).2 = true → asc32 x (l.map Cy.number) = true → ∀ c t, behindL l a = c :: t → (leadsI t c.number).2 = true ∧ t.map Cy.number = ((behindL l a).map Cy.number).tail ∧ c.number > a
  | [], _, _, _, _, _, _, h => by cases h
  | y :: l, a, x, hl, hs, c, t, h => by
    obtain ⟨h1, h2⟩ := leads_tail hl
    have hs' : asc32 y.number (l.map Cy.number) = true := by
      simp only [List.map_cons, asc32, Bool.and_eq_true] at hs
      exact hs.2
    by_cases hy : y.number > a
    · have hall : ∀ z, z ∈ l → z.number > a := by
        have key : ∀ (l : List Cy) (x : Int), asc32 x (l.map Cy.number) = true → ∀ z, z ∈ l → x < z.number := by
          intro l
          induction l with
          | nil => intro x _ z hz; cases hz
          | cons u r ih =>
            intro x hx z hz
            simp only [List.map_cons, asc32, Bool.and_eq_true, decide_eq_true_eq] at hx
            rcases List.mem_cons.1 hz with rfl | hz
            · exact hx.1.1
            · have := ih _ hx.2 z hz; omega
        intro z hz
        have := key l _ hs' z hz; omega
      have e : behindL (y :: l) a = y :: l := by
        unfold behindL
        rw [List.filter_cons, if_pos (by simpa using hy), List.filter_eq_self.2 fun z hz => by simpa using hall z hz]
      rw [e] at h
      cases h
      exact ⟨h2, by rw [e]; rfl, hy⟩
    · have e : behindL (y :: l) a = behindL l a := by
        unfold behindL
        rw [List.filter_cons, if_neg (by simpa using hy)]
      rw [e] at h ⊢
      exact behind_end l a y.number h2 hs' c t h
end Sx
end
section
open Go
namespace Sx
/-! Values that are alike. -/
def SE (X Y : SV) : Prop := (∀ E E', X.den E = Y.den E') ∧ ∀ H, X.Ok H → Y.Ok H
inductive SEL : List SV → List SV → Prop
  | nil : SEL [] []
  | cons {x y : SV} {r s : List SV} : SE x y → SEL r s → SEL (x :: r) (y :: s)
theorem SEL.den {r s : List SV} (h : SEL r s) (E E' : Env) : SV.denL E r = SV.denL E' s := by
  induction h with
  | nil => rfl
  | cons h _ ih => simp only [SV.denL, h.1 E E', ih]
theorem SEL.ok {r s : List SV} (h : SEL r s) (H : HV) : SV.OkL H r → SV.OkL H s := by
  induction h with
  | nil => exact id
  | cons h _ ih => exact fun k => ⟨h.2 H k.1, ih k.2⟩
theorem se_int {k : IntKind} {a b : Int} (h : a = b) : SE (.int k a) (.int k b) := by subst h; exact ⟨fun _ _ => rfl, fun _ h => h⟩
theorem se_lb {a b : Bool} (h : a = b) : SE (.lb a) (.bool b) := by subst h; exact ⟨fun _ _ => by simp [SV.den], fun _ _ => trivial⟩
theorem se_agg {r s : List SV} (h : SEL r s) : SE (.agg r) (.agg s) := ⟨fun E E' => by simp only [SV.den, h.den E E'], fun H k => by simp only [SV.Ok] at k ⊢; exact h.ok H k⟩
theorem se_tup {r s : List SV} (h : SEL r s) : SE (.tup r) (.tup s) := ⟨fun E E' => by simp only [SV.den, h.den E E'], fun H k => by simp only [SV.Ok] at k ⊢; exact h.ok H k⟩
theorem SEL.app {a b c d : List SV} (h : SEL a b) (k : SEL c d) : SEL (a ++ c) (b ++ d) := by
  induction h with
  | nil => exact k
  | cons h _ ih => exact .cons h ih
section
variable {α : Type} [Codec α]
theorem Stands.se {X : SV} {xs : List α} (h : Stands α X xs) : ∃ d : D, SE X (.dat (d.like xs)) := by
  obtain ⟨d, h1, h2, h3, h4⟩ := h
  refine ⟨d, fun E E' => ?_, fun H k => ?_⟩
  · simp only [SV.den, D.like_self h2 h3, h1]
  · simp only [SV.Ok, D.like_self h2 h3]; exact ⟨h4 _ k, h2.slc⟩
end
theorem ret_se {P : Program} {w : World} {H : HV} {v : SV} {g : (Nat → D) → SV} (ds : Nat → D) (h : SE v (g ds)) : (Tree.ret v).holds P ⟨w, H⟩ (RetD w H g) := ret_D ds h.1 h.2
/-! Cycles. -/
noncomputable def cyL (p w : D) (c : Cy) : List SV := [.int .i64 c.base, .int .i64 c.number, .int .i64 c.time, .dat (p.like c.pos), .dat (w.like c.wr)]
noncomputable def spCpC (x : CyD) : SpecR := .data [x.Ok] fun ds => .agg (cyL (ds 0) (ds 1) x.cy)
noncomputable def spCpW (x : D) : SpecR := .data [x.Is Wt ∧ x.len ≤ 1048576 ∧ ∀ w, w ∈ x.to Wt → w.data.length ≤ 1048576] fun ds => .dat ((ds 0).like (x.to Wt))
theorem cyL_sel {b n t : Int} {X Y : SV} {ps : List Int} {ws : List Wt} {c : Cy} (hx : Stands Int X ps) (hy : Stands Wt Y ws) (hc : c = ⟨b, n, t, ps, ws⟩) : ∃ p w : D, SEL [.int .i64 b, .int .i64 n, .int .i64 t, X, Y] (cyL p w c) := by
  subst hc
  obtain ⟨p, h1⟩ := hx.se
  obtain ⟨w, h2⟩ := hy.se
  exact ⟨p, w, .cons (se_int rfl) (.cons (se_int rfl) (.cons (se_int rfl) (.cons h1 (.cons h2 .nil))))⟩
theorem ret_cy {P : Program} {w : World} {H : HV} {b n t : Int} {X Y : SV} {ps : List Int} {ws : List Wt} {c : Cy} (hx : Stands Int X ps) (hy : Stands Wt Y ws) (hc : c = ⟨b, n, t, ps, ws⟩) :
    (Tree.ret (.agg [.int .i64 b, .int .i64 n, .int .i64 t, X, Y])).holds P ⟨w, H⟩ (RetD w H fun ds => .agg (cyL (ds 0) (ds 1) c)) := by
  obtain ⟨p, q, h⟩ := cyL_sel hx hy hc
  exact ret_se (fun i => match i with | 0 => p | _ => q) (se_agg h)
theorem cy_one {b n t : Int} {p w : D} {ps : List Int} {ws : List Wt} (hp : p.Is Int) (hp' : p.to Int = ps) (hw : w.Is Wt) (hw' : w.to Wt = ws) : SRows Cy [[.int .i64 b, .int .i64 n, .int .i64 t, p, w]] [⟨b, n, t, ps, ws⟩] := by
  subst hp'; subst hw'
  exact rows_one ⟨_, _, _, _, _, rfl, hp, hw⟩ rfl
/-! Relays. -/
structure RlD where
  near : Tgt
  far : Tgt
  src : SrcD
  k : D
def RlD.rl (x : RlD) : Rl := ⟨x.near, x.far, x.src.src, x.k.to Cy⟩
def RlD.Ok (x : RlD) : Prop := x.src.d.Is Int ∧ x.k.Is Cy ∧ x.src.d.len ≤ 1048576 ∧ x.k.len ≤ 1048576 ∧ ∀ c, c ∈ x.k.to Cy → CyOk c
def rlRd (l : List SV) : Option RlD := match l with
  | [.int .i64 a, .int .i64 b, .int .i64 c, .int .i64 d, .int .i64 e, .int .i64 f, .int .i64 g, .int .i64 h, .int .i64 i, .int .i64 j, o, .int .i64 k, .int .i64 l, q] => match rdD.read o, rdD.read q with
    | some o, some q => some ⟨⟨a, b, c, d⟩, ⟨e, f, g, h⟩, ⟨i, j, o, k, l⟩, q⟩
    | _, _ => none
  | _ => none
def rlCs (x : RlD) : List SV := [.int .i64 x.near.epoch, .int .i64 x.near.site, .int .i64 x.near.stored, .int .i64 x.near.applied, .int .i64 x.far.epoch, .int .i64 x.far.site, .int .i64 x.far.stored, .int .i64 x.far.applied,
  .int .i64 x.src.e, .int .i64 x.src.s, .dat x.src.d, .int .i64 x.src.st, .int .i64 x.src.ap, .dat x.k]
def rdRl : Rd1 RlD where
  read x := match x with
    | .agg l => rlRd l
    | _ => none
  canon x := .agg (rlCs x)
  right H E x b h hok := by
    split at h
    · rename_i l
      unfold rlRd at h
      split at h
      · split at h
        · rename_i hp hw
          cases h
          obtain ⟨h1, h2⟩ := rdD.right H E _ _ hp hok.2.2.2.2.2.2.2.2.2.2.1
          obtain ⟨h3, h4⟩ := rdD.right H E _ _ hw hok.2.2.2.2.2.2.2.2.2.2.2.2.2.1
          exact ⟨by simp only [SV.den, SV.denL, h1, h3, rdD, rlCs], trivial, trivial, trivial, trivial, trivial, trivial, trivial, trivial, trivial, trivial, h2, trivial, trivial, h4, trivial⟩
        · cases h
      · cases h
    · cases h
noncomputable def rlL (o k : D) (r : Rl) : List SV := [.int .i64 r.near.epoch, .int .i64 r.near.site, .int .i64 r.near.stored, .int .i64 r.near.applied, .int .i64 r.far.epoch, .int .i64 r.far.site, .int .i64 r.far.stored, .int .i64 r.far.applied,
  .int .i64 r.src.epoch, .int .i64 r.src.site, .dat (o.like r.src.offered), .int .i64 r.src.stored, .int .i64 r.src.applied, .dat (k.like r.kept)]
theorem rlL_sel {a b c d e f g h i j k l : Int} {X Y : SV} {os : List Int} {ks : List Cy} {r : Rl} (hx : Stands Int X os) (hy : Stands Cy Y ks) (hr : r = ⟨⟨a, b, c, d⟩, ⟨e, f, g, h⟩, ⟨i, j, os, k, l⟩, ks⟩) :
    ∃ p q : D, SEL [.int .i64 a, .int .i64 b, .int .i64 c, .int .i64 d, .int .i64 e, .int .i64 f, .int .i64 g, .int .i64 h, .int .i64 i, .int .i64 j, X, .int .i64 k, .int .i64 l, Y] (rlL p q r) := by
  subst hr
  obtain ⟨p, h1⟩ := hx.se
  obtain ⟨q, h2⟩ := hy.se
  exact ⟨p, q, .cons (se_int rfl) (.cons (se_int rfl) (.cons (se_int rfl) (.cons (se_int rfl) (.cons (se_int rfl) (.cons (se_int rfl) (.cons (se_int rfl) (.cons (se_int rfl) (.cons (se_int rfl) (.cons (se_int rfl) (.cons h1 (.cons (se_int rfl) (.cons (se_int rfl) (.cons h2 .nil)))))))))))))⟩
def rdQuad : Rd (Int × Int × Int × Int) := rdInt.four rdInt rdInt rdInt
noncomputable def spNewRl (x : Int × Int × Int × Int) : SpecR := .data [] fun ds => .tup [.agg (rlL (ds 0) (ds 1) (newRl x.1 x.2.1 x.2.2.1 x.2.2.2).1), .int .i64 (newRl x.1 x.2.1 x.2.2.1 x.2.2.2).2]
def spCkRl (x : RlD) : SpecR := .scalar [x.Ok] (.int .i64 (ckRl x.rl))
def spLagRl (x : RlD) : SpecR := .scalar [x.Ok] (.int .i64 (lagRl x.rl))
noncomputable def spApplyRl (x : RlD × CyD) : SpecR := .data [x.1.Ok ∧ x.2.Ok] fun ds => .tup [.agg (rlL (ds 0) (ds 1) (applyRl x.1.rl x.2.cy).1), .dat ((ds 2).like (applyRl x.1.rl x.2.cy).2.1), .int .i64 (applyRl x.1.rl x.2.cy).2.2]
noncomputable def spNextRl (x : RlD) : SpecR := .data [x.Ok] fun ds => .tup [.agg (cyL (ds 0) (ds 1) (nextRl x.rl).1), .bool (nextRl x.rl).2]
noncomputable def spLearnRl (x : RlD × MsgD) : SpecR := .data [x.1.Ok] fun ds => .tup [.agg (rlL (ds 0) (ds 1) (learnRl x.1.rl x.2.msg).1), .dat ((ds 2).like (learnRl x.1.rl x.2.msg).2)]
noncomputable def spRestartRl (x : RlD × Int × Int) : SpecR := .data [x.1.Ok] fun ds => .tup [.agg (rlL (ds 0) (ds 1) (restartRl x.1.rl x.2.1 x.2.2).1), .int .i64 (restartRl x.1.rl x.2.1 x.2.2).2]
def spSameRl (x : RlD × RlD) : SpecR := .scalar [x.1.Ok ∧ x.2.Ok] (.bool (decide (x.1.rl = x.2.rl)))
def spFewRl (x : RlD) : SpecR := .scalar [x.src.d.Is Int ∧ x.k.Is Cy] (.bool (decide (x.src.d.len ≤ 40) && decide (x.k.len ≤ 40) && (x.k.to Cy).all fewC))
end Sx
end
section
open Go
namespace Sx
abbrev tsTgt : List TS := [tsJ, tsJ, tsJ, tsJ]
abbrev tsSrc : List TS := [tsJ, tsJ, .slc tsJ, tsJ, tsJ]
abbrev tsCy : List TS := [tsJ, tsJ, tsJ, .slc tsJ, .slc (.st tsWt)]
abbrev tsRl : List TS := [.st tsTgt, .st tsTgt, .st tsSrc, .slc (.st tsCy)]
abbrev tsMsg : List TS := [tsJ, tsJ, tsJ, tsJ, tsJ, tsJ, .slc tsJ, .slc (.int .u8)]
theorem sh_cy {ds : List D} (h : TS.ShL tsCy ds) : ∃ b n t p w, ds = [.int .i64 b, .int .i64 n, .int .i64 t, p, w] ∧ p.Is Int ∧ p.IsSlc ∧ w.Is Wt ∧ w.IsSlc := by
  simp only [tsCy, TS.ShL] at h
  obtain ⟨_, _, rfl, h1, _, _, rfl, h2, _, _, rfl, h3, _, _, rfl, h4, _, _, rfl, h5, rfl⟩ := h
  obtain ⟨b, rfl⟩ := shJ h1
  obtain ⟨n, rfl⟩ := shJ h2
  obtain ⟨t, rfl⟩ := shJ h3
  obtain ⟨p, rfl, h4⟩ := shSlc h4
  obtain ⟨w, rfl, h5⟩ := shSlc h5
  exact ⟨b, n, t, p, w, rfl, (shInts h4).1, (shInts h4).2.1, (shWts h5).1, (shWts h5).2.1⟩
theorem shCys {d : D} (h : TS.Sh (.slc (.st tsCy)) [d]) : d.Is Cy ∧ d.IsSlc ∧ d.len ≤ maxLen := shSl rfl (fun r hr => by
  obtain ⟨b, n, t, p, w, rfl, i1, _, i2, _⟩ := sh_cy (by simpa only [TS.Sh] using hr)
  exact ⟨_, _, _, _, _, rfl, i1, i2⟩) h
theorem sh_tgt {ds : List D} (h : TS.ShL tsTgt ds) : ∃ a b c d, ds = [.int .i64 a, .int .i64 b, .int .i64 c, .int .i64 d] := by
  simp only [tsTgt, TS.ShL] at h
  obtain ⟨_, _, rfl, h1, _, _, rfl, h2, _, _, rfl, h3, _, _, rfl, h4, rfl⟩ := h
  obtain ⟨a, rfl⟩ := shJ h1
  obtain ⟨b, rfl⟩ := shJ h2
  obtain ⟨c, rfl⟩ := shJ h3
  obtain ⟨d, rfl⟩ := shJ h4
  exact ⟨a, b, c, d, rfl⟩
theorem sh_src {ds : List D} (h : TS.ShL tsSrc ds) : ∃ a b o c d, ds = [.int .i64 a, .int .i64 b, o, .int .i64 c, .int .i64 d] ∧ o.Is Int ∧ o.IsSlc := by
  simp only [tsSrc, TS.ShL] at h
  obtain ⟨_, _, rfl, h1, _, _, rfl, h2, _, _, rfl, h3, _, _, rfl, h4, _, _, rfl, h5, rfl⟩ := h
  obtain ⟨a, rfl⟩ := shJ h1
  obtain ⟨b, rfl⟩ := shJ h2
  obtain ⟨o, rfl, h3⟩ := shSlc h3
  obtain ⟨c, rfl⟩ := shJ h4
  obtain ⟨d, rfl⟩ := shJ h5
  exact ⟨a, b, o, c, d, rfl, (shInts h3).1, (shInts h3).2.1⟩
theorem sh_rl {ds : List D} (h : TS.ShL tsRl ds) : ∃ a1 a2 a3 a4 b1 b2 b3 b4 e s o st ap k, ds = [.int .i64 a1, .int .i64 a2, .int .i64 a3, .int .i64 a4, .int .i64 b1, .int .i64 b2, .int .i64 b3, .int .i64 b4, .int .i64 e, .int .i64 s, o, .int .i64 st, .int .i64 ap, k] ∧ o.Is Int ∧ o.IsSlc ∧ k.Is Cy ∧ k.IsSlc := by
  simp only [tsRl, TS.ShL] at h
  obtain ⟨_, _, rfl, h1, _, _, rfl, h2, _, _, rfl, h3, _, _, rfl, h4, rfl⟩ := h
  obtain ⟨a1, a2, a3, a4, rfl⟩ := sh_tgt (by simpa only [TS.Sh] using h1)
  obtain ⟨b1, b2, b3, b4, rfl⟩ := sh_tgt (by simpa only [TS.Sh] using h2)
  obtain ⟨e, s, o, st, ap, rfl, i1, i2⟩ := sh_src (by simpa only [TS.Sh] using h3)
  obtain ⟨k, rfl, h4⟩ := shSlc h4
  exact ⟨a1, a2, a3, a4, b1, b2, b3, b4, e, s, o, st, ap, k, rfl, i1, i2, (shCys h4).1, (shCys h4).2.1⟩
end Sx
end
section
open Go
namespace Sx
theorem shBts {d : D} (h : TS.Sh (.slc (.int .u8)) [d]) : d.Is Byte ∧ d.IsSlc ∧ d.len ≤ maxLen := shSl rfl (fun r hr => by obtain ⟨n, rfl⟩ := shU8 hr; exact ⟨n, rfl⟩) h
theorem sh_mg {ds : List D} (h : TS.ShL tsMsg ds) : ∃ a b c d e f v w, ds = [.int .i64 a, .int .i64 b, .int .i64 c, .int .i64 d, .int .i64 e, .int .i64 f, v, w] ∧ v.IsSlc ∧ w.IsSlc := by
  simp only [tsMsg, TS.ShL] at h
  obtain ⟨_, _, rfl, h1, _, _, rfl, h2, _, _, rfl, h3, _, _, rfl, h4, _, _, rfl, h5, _, _, rfl, h6, _, _, rfl, h7, _, _, rfl, h8, rfl⟩ := h
  obtain ⟨a, rfl⟩ := shJ h1
  obtain ⟨b, rfl⟩ := shJ h2
  obtain ⟨c, rfl⟩ := shJ h3
  obtain ⟨d, rfl⟩ := shJ h4
  obtain ⟨e, rfl⟩ := shJ h5
  obtain ⟨f, rfl⟩ := shJ h6
  obtain ⟨v, rfl, h7⟩ := shSlc h7
  obtain ⟨w, rfl, h8⟩ := shSlc h8
  exact ⟨a, b, c, d, e, f, v, w, rfl, (shInts h7).2.1, (shBts h8).2.1⟩
end Sx
end
section
open Go Go.Proofs Sx
namespace Go.Proofs.YtllmgnhjljmihaaGreat
set_option maxRecDepth 100000
set_option maxHeartbeats 0
section
variable (n j : Int) (d e a b : D) (v s : Int)
theorem cf_in : exec Tryz.prog [] 200 (entry Tryz.prog 103 [.dat d, .fn 102 [] []]) =
 Tree.leaf
 (Conf.mk
 (SFrm.mk 103 none none
 [Item.inLoop (cAt Tryz.prog 103 [1, 0, 1, 0, 0]), Item.inBlock 0, Item.code (cAt Tryz.prog 103 [1, 1])]
 (mkJ 0
 [(0, .dat d), (1, SV.fn 102 [] []), (7, .int .i64 (↑(D.len d) : Int)), (8, .int .i64 0)] 0
 19))
 [] []) := by kernel_rfl

theorem mp_in : exec Tryz.prog [] 200 (entry Tryz.prog 89 [.dat d, .fn 90 [] []]) =
 Tree.need
 ((0 : Int) ≤ 0 ∧
 0 ≤ (↑(D.len d) : Int) ∧
 (↑24 : Int) * (↑(D.len d) : Int) ≤ 281474976710656 ∧ (↑(D.len d) : Int) ≤ 9223372036854775807)
 (.all fun hs =>
 .leaf
 (Conf.mk
 (SFrm.mk 89 none none
 [Item.inLoop (cAt Tryz.prog 89 [1, 1, 0, 1, 0, 0]), Item.inBlock 0, Item.code (cAt Tryz.prog 89 [1, 1, 1])]
 (mkJ 0
 [(1, SV.fn 90 [] []), (5, .vec 0), (11, .dat d), (12, .int .i64 (↑(D.len d) : Int)),
 (13, .int .i64 0)]
 0 25))
 [] [(0, OBlk.arr 87 (D.slc (D.hd (hs 0 0)) 1 (List.replicate 0 [D.slc none 0 []])))])) := by kernel_rfl

theorem ms_in : exec Tryz.prog [] 200 (entry Tryz.prog 109 [.dat d, .fn 110 [] []]) =
 Tree.need
 ((0 : Int) ≤ 0 ∧
 0 ≤ (↑(D.len d) : Int) ∧
 (↑8 : Int) * (↑(D.len d) : Int) ≤ 281474976710656 ∧ (↑(D.len d) : Int) ≤ 9223372036854775807)
 (.all fun hs =>
 .leaf
 (Conf.mk
 (SFrm.mk 109 none none
 [Item.inLoop (cAt Tryz.prog 109 [1, 1, 0, 1, 0, 0]), Item.inBlock 0, Item.code (cAt Tryz.prog 109 [1, 1, 1])]
 (mkJ 0
 [(1, SV.fn 110 [] []), (5, .vec 0), (11, .dat d), (12, .int .i64 (↑(D.len d) : Int)),
 (13, .int .i64 0)]
 0 25))
 [] [(0, OBlk.arr 3 (D.slc (D.hd (hs 0 0)) 1 (List.replicate 0 [D.int .i64 0])))])) := by kernel_rfl

theorem ft_in : exec Tryz.prog [] 200 (entry Tryz.prog 105 [.dat d, .agg [.int .i64 v, .int .i64 s, .dat e]]) =
 Tree.br (decide (v < 0)) (.ret (.int .i64 7))
 (.br (decide (v ≥ (↑(D.len d) : Int))) (.ret (.int .i64 7))
 (.br (decide ((↑(D.len e) : Int) = 0)) (.ret (.int .i64 1))
 (.all fun hs =>
 .br (decide (s < 0))
 (.need (decide (s < 0) = true)
 (.need (decide (s < 0) = true)
 (.need (decide (s < 0) = true)
 (.need (decide (s < 0) = true)
 (.need (decide (s < 0) = true)
 (.need (decide (s < 0) = true)
 (.need (decide (s < 0) = true)
 (.need (decide (s < 0) = true)
 (.need (decide (s < 0) = true)
 (.need (decide (s < 0) = true)
 (.need (decide (s < 0) = true)
 (.need (decide (s < 0) = true)
 (.need (decide (s < 0) = true)
 (.need (decide (s < 0) = true) (.ret (.int .i64 2))))))))))))))))
 (.need (decide (s < 0) = false)
 (.need (decide (s < 0) = false)
 (.need (decide (s < 0) = false)
 (.need (decide (s < 0) = false)
 (.need (decide (s < 0) = false)
 (.need (decide (s < 0) = false)
 (.need (0 ≤ v ∧ v < (↑(D.len d) : Int) ∧ D.sz d = 1)
 (.need (decide (s < 0) = false)
 (.need (D.HasCell d (Int.toNat v) 0 FT.slc)
 (.need (decide (s < 0) = false)
 (.need (decide (s < 0) = false)
 (.need (decide (s < 0) = false)
 (.need (decide (s < 0) = false)
 (.need (decide (s < 0) = false)
 (.need (decide (s < 0) = false)
 (.need (decide (s < 0) = false)
 (.br
 (decide
 (s >
 IntKind.wrap .i64
 ((↑(D.len (D.cell d (Int.toNat v) 0)) : Int) - (↑(D.len e) : Int))))
 (.ret (.int .i64 2))
 (.ret (.int .i64 0)))))))))))))))))))))) := by kernel_rfl

theorem rs_in : exec Tryz.prog [] 200 (entry Tryz.prog 69 [.dat d]) =
 Tree.br (decide ((↑(D.len d) : Int) < 1)) (.ret (.int .i64 6))
 (.br (decide ((↑(D.len d) : Int) > 8)) (.ret (.int .i64 6))
 (.leaf
 (Conf.mk
 (SFrm.mk 69 none none
 [Item.inLoop (cAt Tryz.prog 69 [1, 1, 0, 1, 0, 0]), Item.inBlock 0, Item.code (cAt Tryz.prog 69 [1, 1, 1])]
 (mkJ 0 [(0, .dat d), (3, .int .i64 0)] 0 30))
 [] []))) := by kernel_rfl

theorem rf_in : exec Tryz.prog [] 200 (entry Tryz.prog 99 [.dat d, .agg [.int .i64 v, .int .i64 s, .dat e]]) =
 Tree.br (decide (v < 0)) (.ret (.int .i64 7))
 (.br (decide (v ≥ (↑(D.len d) : Int))) (.ret (.int .i64 7))
 (.br (decide ((↑(D.len e) : Int) = 0)) (.ret (.int .i64 1))
 (.all fun hs =>
 .br (decide (s < 0))
 (.need (decide (s < 0) = true)
 (.need (decide (s < 0) = true)
 (.need (decide (s < 0) = true)
 (.need (decide (s < 0) = true)
 (.need (decide (s < 0) = true)
 (.need (decide (s < 0) = true)
 (.need (decide (s < 0) = true)
 (.need (decide (s < 0) = true)
 (.need (decide (s < 0) = true) (.ret (.int .i64 2)))))))))))
 (.br (decide (s ≥ D.getInt d (Int.toNat v) 0))
 (.need (decide (s < 0) = false)
 (.need (decide (s < 0) = false)
 (.need (decide (s < 0) = false)
 (.need (decide (s < 0) = false)
 (.need (decide (s < 0) = false)
 (.need (decide (s < 0) = false)
 (.need (0 ≤ v ∧ v < (↑(D.len d) : Int) ∧ D.sz d = 1)
 (.need (decide (s < 0) = false)
 (.need (D.HasCell d (Int.toNat v) 0 (FT.int .i64))
 (.need (decide (s < 0) = false)
 (.need (decide (s < 0) = false)
 (.need (decide (s ≥ D.getInt d (Int.toNat v) 0) = true)
 (.need (decide (s ≥ D.getInt d (Int.toNat v) 0) = true)
 (.need (decide (s ≥ D.getInt d (Int.toNat v) 0) = true)
 (.need (decide (s ≥ D.getInt d (Int.toNat v) 0) = true)
 (.need (decide (s ≥ D.getInt d (Int.toNat v) 0) = true)
 (.need (decide (s ≥ D.getInt d (Int.toNat v) 0) = true)
 (.need (decide (s ≥ D.getInt d (Int.toNat v) 0) = true)
 (.need (decide (s ≥ D.getInt d (Int.toNat v) 0) = true)
 (.need (decide (s ≥ D.getInt d (Int.toNat v) 0) = true)
 (.need (decide (s ≥ D.getInt d (Int.toNat v) 0) = true)
 (.need (decide (s ≥ D.getInt d (Int.toNat v) 0) = true)
 (.need (decide (s ≥ D.getInt d (Int.toNat v) 0) = true)
 (.need (decide (s ≥ D.getInt d (Int.toNat v) 0) = true)
 (.ret (.int .i64 2))))))))))))))))))))))))))
 (.need (decide (s < 0) = false)
 (.need (decide (s < 0) = false)
 (.need (decide (s < 0) = false)
 (.need (decide (s < 0) = false)
 (.need (decide (s < 0) = false)
 (.need (decide (s < 0) = false)
 (.need (0 ≤ v ∧ v < (↑(D.len d) : Int) ∧ D.sz d = 1)
 (.need (decide (s < 0) = false)
 (.need (D.HasCell d (Int.toNat v) 0 (FT.int .i64))
 (.need (decide (s < 0) = false)
 (.need (decide (s < 0) = false)
 (.need (decide (s ≥ D.getInt d (Int.toNat v) 0) = false)
 (.need (decide (s ≥ D.getInt d (Int.toNat v) 0) = false)
 (.need (decide (s ≥ D.getInt d (Int.toNat v) 0) = false)
 (.need (decide (s ≥ D.getInt d (Int.toNat v) 0) = false)
 (.need (decide (s ≥ D.getInt d (Int.toNat v) 0) = false)
 (.need (decide (s ≥ D.getInt d (Int.toNat v) 0) = false)
 (.need (decide (s ≥ D.getInt d (Int.toNat v) 0) = false)
 (.need (0 ≤ v ∧ v < (↑(D.len d) : Int) ∧ D.sz d = 1)
 (.need (decide (s ≥ D.getInt d (Int.toNat v) 0) = false)
 (.need (D.HasCell d (Int.toNat v) 0 (FT.int .i64))
 (.need (decide (s ≥ D.getInt d (Int.toNat v) 0) = false)
 (.need (decide (s ≥ D.getInt d (Int.toNat v) 0) = false)
 (.need (decide (s ≥ D.getInt d (Int.toNat v) 0) = false)
 (.need (decide (s ≥ D.getInt d (Int.toNat v) 0) = false)
 (.need
 (decide (s ≥ D.getInt d (Int.toNat v) 0) = false)
 (.br
 (decide
 ((↑(D.len e) : Int) >
 IntKind.wrap .i64
 (D.getInt d (Int.toNat v) 0 - s)))
 (.ret (.int .i64 2))
 (.ret
 (.int .i64
 0))))))))))))))))))))))))))))))))) := by kernel_rfl

end
end Go.Proofs.YtllmgnhjljmihaaGreat
end
section
open Go Go.Proofs Sx
namespace Go.Proofs.YtllmgnhjljmihaaGreat
set_option maxRecDepth 100000
set_option maxHeartbeats 0
noncomputable def cfL (d : D) (j : Int) : Conf := Conf.mk (SFrm.mk 103 none none [Item.inLoop (cAt Tryz.prog 103 [1, 0, 1, 0, 0]), Item.inBlock 0, Item.code (cAt Tryz.prog 103 [1, 1])]
 (mkJ 0 [(0, .dat d), (1, .fn 102 [] []), (7, .int .i64 d.len), (8, .int .i64 j)] 0 19)) [] []
noncomputable def mpL (d o : D) (j : Int) : Conf := Conf.mk (SFrm.mk 89 none none [Item.inLoop (cAt Tryz.prog 89 [1, 1, 0, 1, 0, 0]), Item.inBlock 0, Item.code (cAt Tryz.prog 89 [1, 1, 1])]
 (mkJ 0 [(1, .fn 90 [] []), (5, .vec 0), (11, .dat d), (12, .int .i64 d.len), (13, .int .i64 j)] 0 25)) [] [(0, .arr 87 o)]
noncomputable def msL (d o : D) (j : Int) : Conf := Conf.mk (SFrm.mk 109 none none [Item.inLoop (cAt Tryz.prog 109 [1, 1, 0, 1, 0, 0]), Item.inBlock 0, Item.code (cAt Tryz.prog 109 [1, 1, 1])]
 (mkJ 0 [(1, .fn 110 [] []), (5, .vec 0), (11, .dat d), (12, .int .i64 d.len), (13, .int .i64 j)] 0 25)) [] [(0, .arr 3 o)]
noncomputable def rsL (d : D) (j : Int) : Conf := Conf.mk (SFrm.mk 69 none none [Item.inLoop (cAt Tryz.prog 69 [1, 1, 0, 1, 0, 0]), Item.inBlock 0, Item.code (cAt Tryz.prog 69 [1, 1, 1])]
 (mkJ 0 [(0, .dat d), (3, .int .i64 j)] 0 30)) [] []
section
variable (n j : Int) (d e a b o : D) (v s : Int)
theorem cf_go : exec Tryz.prog [] 200 (unroll (cfL d j)) =
 Tree.br (decide (j < (↑(D.len d) : Int)))
 (.need (0 ≤ j ∧ j < (↑(D.len d) : Int) ∧ D.sz d = 1)
 (.need (D.HasCell d (Int.toNat j) 0 (FT.int .i64))
 (.br (decide (D.getInt d (Int.toNat j) 0 < 1)) (.ret (.int .i64 j))
 (.br (decide (D.getInt d (Int.toNat j) 0 > 4096)) (.ret (.int .i64 j))
 (.leaf
 (Conf.mk
 (SFrm.mk 103 none none
 [Item.inLoop (cAt Tryz.prog 103 [1, 0, 1, 0, 0]), Item.inBlock 0, Item.code (cAt Tryz.prog 103 [1, 1])]
 (mkJ 0
 [(0, .dat d), (1, SV.fn 102 [] []), (7, .int .i64 (↑(D.len d) : Int)),
 (8, .int .i64 (IntKind.wrap .i64 (j + 1)))]
 0 19))
 [] []))))))
 (.ret (.int .i64 (Int.neg 1))) := by kernel_rfl

theorem mp_go : exec Tryz.prog [] 200 (unroll (mpL d o j)) =
 Tree.br (decide (j < (↑(D.len d) : Int)))
 (.need (0 ≤ j ∧ j < (↑(D.len d) : Int) ∧ D.sz d = 1)
 (.need (D.HasCell d (Int.toNat j) 0 (FT.int .i64))
 (.need
 (0 ≤ D.getInt d (Int.toNat j) 0 ∧
 D.getInt d (Int.toNat j) 0 = D.getInt d (Int.toNat j) 0 ∧
 (↑8 : Int) * D.getInt d (Int.toNat j) 0 ≤ 281474976710656 ∧
 D.getInt d (Int.toNat j) 0 ≤ 9223372036854775807)
 (.all fun hs =>
 .all fun hs_1 =>
 .need
 (D.sz o = 1 ∧
 D.Fits
 (D.slc (D.hd (hs_1 0 0)) 1
 [[D.slc (D.hd (hs 0 0)) 8
 (List.replicate (Int.toNat (D.getInt d (Int.toNat j) 0))
 [D.int .u8 0, D.int .u8 0, D.int .u8 0, D.int .u8 0,
 D.int .u8 0, D.int .u8 0, D.int .u8 0, D.int .u8 0])]])
 1 ∧
 (D.len o +
 D.len
 (D.slc (D.hd (hs_1 0 0)) 1
 [[D.slc (D.hd (hs 0 0)) 8
 (List.replicate (Int.toNat (D.getInt d (Int.toNat j) 0))
 [D.int .u8 0, D.int .u8 0, D.int .u8 0, D.int .u8 0,
 D.int .u8 0, D.int .u8 0, D.int .u8 0,
 D.int .u8 0])]])) *
 24 ≤
 140737488355328 ∧
 D.len o +
 D.len
 (D.slc (D.hd (hs_1 0 0)) 1
 [[D.slc (D.hd (hs 0 0)) 8
 (List.replicate (Int.toNat (D.getInt d (Int.toNat j) 0))
 [D.int .u8 0, D.int .u8 0, D.int .u8 0, D.int .u8 0,
 D.int .u8 0, D.int .u8 0, D.int .u8 0,
 D.int .u8 0])]]) ≤
 9223372036854775807)
 (.all fun hs_2 =>
 .leaf
 (Conf.mk
 (SFrm.mk 89 none none
 [Item.inLoop (cAt Tryz.prog 89 [1, 1, 0, 1, 0, 0]), Item.inBlock 0,
 Item.code (cAt Tryz.prog 89 [1, 1, 1])]
 (mkJ 0
 [(1, SV.fn 90 [] []), (5, .vec 0), (11, .dat d),
 (12, .int .i64 (↑(D.len d) : Int)),
 (13, .int .i64 (IntKind.wrap .i64 (j + 1)))]
 0 25))
 []
 [(0,
 OBlk.arr 87
 (D.slc (D.hd (hs_2 0 0)) 1
 (List.append (D.rows o)
 (D.rows
 (D.slc (D.hd (hs_1 0 0)) 1
 [[D.slc (D.hd (hs 0 0)) 8
 (List.replicate (Int.toNat (D.getInt d (Int.toNat j) 0))
 [D.int .u8 0, D.int .u8 0, D.int .u8 0,
 D.int .u8 0, D.int .u8 0, D.int .u8 0,
 D.int .u8 0, D.int .u8 0])]])))))]))))))
 (.ret (.dat o)) := by kernel_rfl

theorem ms_go : exec Tryz.prog [] 200 (unroll (msL d o j)) =
 Tree.br (decide (j < (↑(D.len d) : Int)))
 (.need (0 ≤ j ∧ j < (↑(D.len d) : Int) ∧ D.sz d = 1)
 (.need (D.HasCell d (Int.toNat j) 0 FT.slc)
 (.all fun hs =>
 .need
 (D.sz o = 1 ∧
 D.Fits (D.slc (D.hd (hs 0 0)) 1 [[D.int .i64 (↑(D.len (D.cell d (Int.toNat j) 0)) : Int)]]) 1 ∧
 (D.len o +
 D.len
 (D.slc (D.hd (hs 0 0)) 1 [[D.int .i64 (↑(D.len (D.cell d (Int.toNat j) 0)) : Int)]])) *
 8 ≤
 140737488355328 ∧
 D.len o +
 D.len (D.slc (D.hd (hs 0 0)) 1 [[D.int .i64 (↑(D.len (D.cell d (Int.toNat j) 0)) : Int)]]) ≤
 9223372036854775807)
 (.all fun hs_1 =>
 .leaf
 (Conf.mk
 (SFrm.mk 109 none none
 [Item.inLoop (cAt Tryz.prog 109 [1, 1, 0, 1, 0, 0]), Item.inBlock 0,
 Item.code (cAt Tryz.prog 109 [1, 1, 1])]
 (mkJ 0
 [(1, SV.fn 110 [] []), (5, .vec 0), (11, .dat d), (12, .int .i64 (↑(D.len d) : Int)),
 (13, .int .i64 (IntKind.wrap .i64 (j + 1)))]
 0 25))
 []
 [(0,
 OBlk.arr 3
 (D.slc (D.hd (hs_1 0 0)) 1
 (List.append (D.rows o)
 (D.rows
 (D.slc (D.hd (hs 0 0)) 1
 [[D.int .i64 (↑(D.len (D.cell d (Int.toNat j) 0)) : Int)]])))))])))))
 (.ret (.dat o)) := by kernel_rfl

theorem rs_go : exec Tryz.prog [] 200 (unroll (rsL d j)) =
 Tree.br (decide (j < (↑(D.len d) : Int)))
 (.need (0 ≤ j ∧ j < (↑(D.len d) : Int) ∧ D.sz d = 1)
 (.need (D.HasCell d (Int.toNat j) 0 (FT.int .i64))
 (.br (decide (D.getInt d (Int.toNat j) 0 < 1)) (.ret (.int .i64 2))
 (.need (0 ≤ j ∧ j < (↑(D.len d) : Int) ∧ D.sz d = 1)
 (.need (D.HasCell d (Int.toNat j) 0 (FT.int .i64))
 (.br (decide (D.getInt d (Int.toNat j) 0 > 4096)) (.ret (.int .i64 2))
 (.leaf
 (Conf.mk
 (SFrm.mk 69 none none
 [Item.inLoop (cAt Tryz.prog 69 [1, 1, 0, 1, 0, 0]), Item.inBlock 0,
 Item.code (cAt Tryz.prog 69 [1, 1, 1])]
 (mkJ 0 [(0, .dat d), (3, .int .i64 (IntKind.wrap .i64 (j + 1)))] 0 30))
 [] []))))))))
 (.ret (.int .i64 0)) := by kernel_rfl

end
end Go.Proofs.YtllmgnhjljmihaaGreat
end
section
open Go Go.Proofs Sx
namespace Go.Proofs.YtllmgnhjljmihaaGreat
set_option maxRecDepth 100000

theorem lawIdx : Law Tryz.prog 103 ((rdD.two (rdFn 102)).sp spIdxBad) := by
  refine law_in _ (by kernel_rfl) fun H w ⟨d, u⟩ hok hp => ?_
  obtain ⟨hd, hlen⟩ := hp _ (List.mem_singleton.2 rfl)
  simp only at hd hlen
  rw [D.Is.length (α := Int)] at hlen
  apply exec_sound (noCtr _) 200
  rw [show (rdD.two (rdFn 102)).canon (d, u) = [.dat d, .fn 102 [] []] from rfl, cf_in]
  refine runs_loop (fun j : Nat => cfL d j) (fun j => j ≤ (d.to Int).length ∧ ((d.to Int).take j).findIdx? badSize = none) (fun j => (d.to Int).length - j) (fun _ => rfl) ?_ 0 ⟨Nat.zero_le _, by simp⟩
  intro j ⟨hj, hpre⟩ ih
  apply exec_sound (noCtr _) 200
  rw [cf_go]
  have hl := D.Is.length (α := Int) d
  have found : ∀ hc : j < (d.to Int).length, badSize (d.to Int)[j] = true → (d.to Int).findIdx? badSize = some j := by
    intro hc hb
    rw [List.findIdx?_eq_some_iff_getElem]
    refine ⟨hc, hb, fun i hi => ?_⟩
    rw [List.findIdx?_eq_none_iff] at hpre
    have := hpre (d.to Int)[i] (List.mem_take_iff_getElem.2 ⟨i, by omega, rfl⟩)
    simp [this]
  refine ⟨fun hc => ?_, fun hc => ?_⟩
  · simp [hl] at hc
    obtain ⟨c1, c2, c3⟩ := int_at hd hc
    rw [c3]
    refine ⟨c1, c2, fun hc2 => ret_int ?_, fun hc2 => ⟨fun hc3 => ret_int ?_, fun hc3 => ?_⟩⟩
    · simp only [idxP, found hc (by simp [badSize, hc2])]
    · simp only [idxP, found hc (by simp [badSize, hc3])]
    · have := ih (j + 1) ⟨hc, by rw [List.take_succ_eq_append_getElem hc, List.findIdx?_append, hpre]; simp at hc2 hc3; simp [badSize]; omega⟩ (by omega)
      rw [← wrap_succ hc hlen] at this
      exact this
  · simp [hl] at hc
    have : j = (d.to Int).length := by omega
    subst this
    rw [List.take_length] at hpre
    exact ret_int (by simp only [idxP, hpre]; rfl)

theorem lawMapN : Law Tryz.prog 89 ((rdD.two (rdFn 90)).sp spMapN) := by
  refine law_in _ (by kernel_rfl) fun H w ⟨d, u⟩ hok hp => ?_
  obtain ⟨hd, hlen, hn⟩ := hp _ (List.mem_singleton.2 rfl)
  simp only at hd hlen hn
  have hl := D.Is.length (α := Int) d
  apply exec_sound (noCtr _) 200
  rw [show (rdD.two (rdFn 90)).canon (d, u) = [.dat d, .fn 90 [] []] from rfl, mp_in]
  refine ⟨⟨by omega, by omega, by omega, by omega⟩, fun hs => ?_⟩
  refine runs_loop (fun p : D × Nat => mpL d p.1 p.2) (fun p => p.2 ≤ (d.to Int).length ∧ p.1.Is Vol ∧ p.1.sz = 1 ∧ p.1.to Vol = ((d.to Int).take p.2).map volOf) (fun p => (d.to Int).length - p.2) (fun _ => rfl) ?_
    (.slc (D.hd (hs 0 0)) 1 [], 0) ⟨Nat.zero_le _, is_nil _ _, rfl, rfl⟩
  intro ⟨o, j⟩ ⟨hj, ho, hz, hto⟩ ih
  simp only at hj ho hz hto
  have hol := D.Is.length (α := Vol) o
  rw [hto] at hol
  simp only [List.length_map, List.length_take] at hol
  apply exec_sound (noCtr _) 200
  rw [mp_go]
  refine ⟨fun hc => ?_, fun hc => ?_⟩
  · simp [hl] at hc
    obtain ⟨c1, c2, c3⟩ := int_at hd hc
    have hb := hn _ (List.getElem_mem hc)
    rw [c3]
    refine ⟨c1, c2, ⟨hb.1, rfl, by omega, by omega⟩, fun hs1 hs2 => ⟨⟨hz, .inr rfl, by simp only [len_slc, List.length_cons, List.length_nil]; omega, by simp only [len_slc, List.length_cons, List.length_nil]; omega⟩, fun hs3 => ?_⟩⟩
    obtain ⟨z1, z2⟩ := zvol_is (D.hd (hs1 0 0)) (d.to Int)[j]
    have hr := rows_app (rows_of ho) (vol_one z1)
    obtain ⟨i1, i2⟩ := is_of (h := D.hd (hs3 0 0)) (s := 1) rfl hr
    have := ih (_, j + 1) ⟨hc, i1, rfl, i2.trans (by rw [hto, map_take_snoc _ hc, z2]; rfl)⟩ (by simp only; omega)
    simp only at this
    rw [← wrap_succ hc (by omega)] at this
    exact this
  · simp [hl] at hc
    have : j = (d.to Int).length := by omega
    subst this
    rw [List.take_length] at hto
    exact ret_one (stands_dat ho hto) rfl

theorem lawMapS : Law Tryz.prog 109 ((rdD.two (rdFn 110)).sp spMapS) := by
  refine law_in _ (by kernel_rfl) fun H w ⟨d, u⟩ hok hp => ?_
  obtain ⟨hd, hlen⟩ := hp _ (List.mem_singleton.2 rfl)
  simp only at hd hlen
  have hl := D.Is.length (α := Vol) d
  apply exec_sound (noCtr _) 200
  rw [show (rdD.two (rdFn 110)).canon (d, u) = [.dat d, .fn 110 [] []] from rfl, ms_in]
  refine ⟨⟨by omega, by omega, by omega, by omega⟩, fun hs => ?_⟩
  refine runs_loop (fun p : D × Nat => msL d p.1 p.2) (fun p => p.2 ≤ (d.to Vol).length ∧ p.1.Is Int ∧ p.1.sz = 1 ∧ p.1.to Int = volSizes ((d.to Vol).take p.2)) (fun p => (d.to Vol).length - p.2) (fun _ => rfl) ?_
    (.slc (D.hd (hs 0 0)) 1 [], 0) ⟨Nat.zero_le _, is_nil _ _, rfl, rfl⟩
  intro ⟨o, j⟩ ⟨hj, ho, hz, hto⟩ ih
  simp only at hj ho hz hto
  have hol := D.Is.length (α := Int) o
  rw [hto] at hol
  simp only [volSizes, List.length_map, List.length_take] at hol
  apply exec_sound (noCtr _) 200
  rw [ms_go]
  refine ⟨fun hc => ?_, fun hc => ?_⟩
  · simp [hl] at hc
    obtain ⟨c1, c2, c3⟩ := vol_cell hd hc
    refine ⟨⟨by omega, by omega, hd.size hc⟩, c1, fun hs1 => ⟨⟨hz, .inr rfl, by simp only [len_slc, List.length_cons, List.length_nil]; omega, by simp only [len_slc, List.length_cons, List.length_nil]; omega⟩, fun hs3 => ?_⟩⟩
    have hr := rows_app (rows_of ho) (int_one (D.len (D.cell d j 0)))
    obtain ⟨i1, i2⟩ := is_of (h := D.hd (hs3 0 0)) (s := 1) rfl hr
    have := ih (_, j + 1) ⟨hc, i1, rfl, i2.trans (by rw [hto]; unfold volSizes; rw [map_take_snoc _ hc, c3, D.Is.length (α := Sec)])⟩ (by simp only; omega)
    simp only at this
    rw [← wrap_succ hc (by omega)] at this
    exact this
  · simp [hl] at hc
    have : j = (d.to Vol).length := by omega
    subst this
    rw [List.take_length] at hto
    exact ret_one (stands_dat ho hto) rfl

theorem lawSizesR : Law Tryz.prog 69 (rdD.one.sp spSizes) := by
  refine law_in _ (by kernel_rfl) fun H w d hok hp => ?_
  obtain ⟨hd, hlen⟩ := hp _ (List.mem_singleton.2 rfl)
  have hl := D.Is.length (α := Int) d
  apply exec_sound (noCtr _) 200
  rw [show rdD.one.canon d = [.dat d] from rfl, rs_in]
  refine ⟨fun hc => ret_int ?_, fun hc => ⟨fun hc2 => ret_int ?_, fun hc2 => ?_⟩⟩
  · simp [hl] at hc; unfold sizesErr; rw [if_pos (by omega)]
  · simp [hl] at hc2; unfold sizesErr; rw [if_pos (by omega)]
  simp only [decide_eq_false_iff_not] at hc hc2
  have h6 : ¬((d.to Int).length < 1 ∨ (d.to Int).length > 8) := by omega
  refine runs_loop (fun j : Nat => rsL d j) (fun j => j ≤ (d.to Int).length ∧ ((d.to Int).take j).any badSize = false) (fun j => (d.to Int).length - j) (fun _ => rfl) ?_ 0 ⟨Nat.zero_le _, by simp⟩
  intro j ⟨hj, hpre⟩ ih
  apply exec_sound (noCtr _) 200
  rw [rs_go]
  have bad : ∀ hc : j < (d.to Int).length, badSize (d.to Int)[j] = true → 2 = sizesErr (d.to Int) := fun hc hb => by
    unfold sizesErr
    rw [if_neg h6, if_pos (List.any_eq_true.2 ⟨_, List.getElem_mem hc, hb⟩)]
  refine ⟨fun hc => ?_, fun hc => ret_int ?_⟩
  · simp [hl] at hc
    obtain ⟨c1, c2, c3⟩ := int_at hd hc
    rw [c3]
    refine ⟨c1, c2, fun h1 => ret_int (bad hc (by simp [badSize, h1])), fun h1 => ⟨c1, c2, fun h2 => ret_int (bad hc (by simp [badSize, h2])), fun h2 => ?_⟩⟩
    have := ih (j + 1) ⟨hc, by rw [List.take_succ_eq_append_getElem hc, List.any_append, hpre]; simp [badSize]; simp at h1 h2; omega⟩ (by omega)
    rw [← wrap_succ hc (by omega)] at this
    exact this
  · simp [hl] at hc
    have : j = (d.to Int).length := by omega
    subst this
    rw [List.take_length] at hpre
    unfold sizesErr
    rw [if_neg h6, if_neg (by simp [hpre])]

theorem lawFits1 : Law Tryz.prog 105 ((rdD.two rdWt).sp spFits1) := by
  refine law_in _ (by kernel_rfl) fun H w ⟨d, ⟨v, s, e⟩⟩ hok hp => ?_
  obtain ⟨⟨hd, hlen, hv⟩, he, hel⟩ := hp _ (List.mem_singleton.2 rfl)
  simp only at hd hlen hv he hel
  have hl := D.Is.length (α := Vol) d
  have hl2 := D.Is.length (α := Sec) e
  have hvl : (volSizes (d.to Vol)).length = (d.to Vol).length := by simp [volSizes]
  apply exec_sound (noCtr _) 200
  rw [show (rdD.two rdWt).canon (d, ⟨v, s, e⟩) = [.dat d, .agg [.int .i64 v, .int .i64 s, .dat e]] from rfl, ft_in]
  have f1 : (v < 0 ∨ v ≥ ((d.to Vol).length : Int)) → 7 = fitsErr (volSizes (d.to Vol)) (WtD.wt ⟨v, s, e⟩) := fun h => by rw [fitsErr_wt, hvl, if_pos h]
  refine ⟨fun h1 => ret_int (f1 (.inl (of_decide_eq_true h1))), fun h1 => ⟨fun h2 => ret_int (f1 (.inr (by have := of_decide_eq_true h2; omega))), fun h2 => ?_⟩⟩
  have h1' := of_decide_eq_false h1
  have h2' := of_decide_eq_false h2
  have hc : ¬(v < 0 ∨ v ≥ ((d.to Vol).length : Int)) := by omega
  obtain ⟨y, rfl⟩ := Int.eq_ofNat_of_zero_le (show 0 ≤ v by omega)
  have hy : y < (d.to Vol).length := by omega
  obtain ⟨c1, c2, c3⟩ := vol_cell hd hy
  have hvy := hv _ (List.getElem_mem hy)
  have hls := D.Is.length (α := Sec) (d.cell y 0)
  rw [c3] at hvy
  simp only at hvy
  have hg : (volSizes (d.to Vol)).getD (Int.toNat (y : Int)) 0 = ((d.cell y 0).len : Int) := by
    simp only [Int.toNat_natCast, volSizes]
    rw [getD_lt (by simpa using hy)]
    simp only [List.getElem_map, c3, hls]
  have ef : fitsErr (volSizes (d.to Vol)) (WtD.wt ⟨y, s, e⟩) = if (e.to Sec).length = 0 then 1 else if s < 0 ∨ s > ((d.cell y 0).len : Int) - (e.to Sec).length then 2 else 0 := by
    rw [fitsErr_wt, hvl, if_neg hc, hg]
  refine ⟨fun h3 => ret_int ?_, fun h3 hs => ?_⟩
  · have := of_decide_eq_true h3; rw [ef, if_pos (by omega)]
  have h3' := of_decide_eq_false h3
  have e0 : ¬(e.to Sec).length = 0 := by omega
  rw [if_neg e0] at ef
  refine ⟨fun h4 => ?_, fun h4 => ?_⟩
  · have h4' := of_decide_eq_true h4
    rw [if_pos (.inl h4')] at ef
    repeat' first
    | exact h4
    | exact ret_int ef.symm
    | refine ⟨?_, ?_⟩
  · have h4' := of_decide_eq_false h4
    have hw : IntKind.i64.wrap (((d.cell (Int.toNat (y : Int)) 0).len : Int) - (e.len : Int)) = ((d.cell y 0).len : Int) - (e.to Sec).length := by
      simp only [Int.toNat_natCast]; rw [wrap64 (by omega) (by omega), hl2]
    have i0 : 0 ≤ (y : Int) ∧ (y : Int) < (d.len : Int) ∧ d.sz = 1 := ⟨by omega, by omega, hd.size hy⟩
    have fin : ((Tree.br (decide (s > IntKind.i64.wrap (((d.cell (Int.toNat (y : Int)) 0).len : Int) - (e.len : Int)))) (Tree.ret (SV.int .i64 2)) (Tree.ret (SV.int .i64 0))).holds Tryz.prog ⟨w, H⟩ (RetS w H (.int .i64 (fitsErr (volSizes (d.to Vol)) (WtD.wt ⟨y, s, e⟩))))) := by
      refine ⟨fun h5 => ret_int ?_, fun h5 => ret_int ?_⟩
      · have := of_decide_eq_true h5; rw [hw] at this; rw [ef, if_pos (.inr this)]
      · have := of_decide_eq_false h5; rw [hw] at this; rw [ef, if_neg (by omega)]
    repeat' first
    | exact h4
    | exact i0
    | exact c1
    | exact fin
    | refine ⟨?_, ?_⟩

theorem lawFitsR : Law Tryz.prog 99 ((rdD.two rdWt).sp spFitsR) := by
  refine law_in _ (by kernel_rfl) fun H w ⟨d, ⟨v, s, e⟩⟩ hok hp => ?_
  obtain ⟨hd, hlen, hv, he, hel⟩ := hp _ (List.mem_singleton.2 rfl)
  simp only at hd hlen hv he hel
  have hl := D.Is.length (α := Int) d
  have hl2 := D.Is.length (α := Sec) e
  apply exec_sound (noCtr _) 200
  rw [show (rdD.two rdWt).canon (d, ⟨v, s, e⟩) = [.dat d, .agg [.int .i64 v, .int .i64 s, .dat e]] from rfl, rf_in]
  have f1 : (v < 0 ∨ v ≥ ((d.to Int).length : Int)) → 7 = fitsErr (d.to Int) (WtD.wt ⟨v, s, e⟩) := fun h => by rw [fitsErr_wt, if_pos h]
  refine ⟨fun h1 => ret_int (f1 (.inl (of_decide_eq_true h1))), fun h1 => ⟨fun h2 => ret_int (f1 (.inr (by have := of_decide_eq_true h2; omega))), fun h2 => ?_⟩⟩
  have h1' := of_decide_eq_false h1
  have h2' := of_decide_eq_false h2
  have hc : ¬(v < 0 ∨ v ≥ ((d.to Int).length : Int)) := by omega
  obtain ⟨y, rfl⟩ := Int.eq_ofNat_of_zero_le (show 0 ≤ v by omega)
  have hy : y < (d.to Int).length := by omega
  obtain ⟨c1, c2, c3⟩ := int_at hd hy
  have hvy := hv _ (List.getElem_mem hy)
  have hg : (d.to Int).getD (Int.toNat (y : Int)) 0 = (d.to Int)[y] := by simp [hy]
  have ef : fitsErr (d.to Int) (WtD.wt ⟨y, s, e⟩) = if (e.to Sec).length = 0 then 1 else if s < 0 ∨ s > (d.to Int)[y] - (e.to Sec).length then 2 else 0 := by
    rw [fitsErr_wt, if_neg hc, hg]
  refine ⟨fun h3 => ret_int ?_, fun h3 hs => ?_⟩
  · have := of_decide_eq_true h3; rw [ef, if_pos (by omega)]
  have h3' := of_decide_eq_false h3
  have e0 : ¬(e.to Sec).length = 0 := by omega
  rw [if_neg e0] at ef
  rw [c3]
  refine ⟨fun h4 => ?_, fun h4 => ⟨fun h5 => ?_, fun h5 => ?_⟩⟩
  · rw [if_pos (.inl (of_decide_eq_true h4))] at ef
    repeat' first
    | exact h4
    | exact ret_int ef.symm
    | refine ⟨?_, ?_⟩
  · rw [if_pos (.inr (by have := of_decide_eq_true h5; omega))] at ef
    repeat' first
    | exact h4
    | exact h5
    | exact c1
    | exact c2
    | exact ret_int ef.symm
    | refine ⟨?_, ?_⟩
  · have h4' := of_decide_eq_false h4
    have h5' := of_decide_eq_false h5
    have hw : IntKind.i64.wrap ((d.to Int)[y] - s) = (d.to Int)[y] - s := wrap64 (by omega) (by omega)
    have fin : ((Tree.br (decide ((e.len : Int) > IntKind.i64.wrap ((d.to Int)[y] - s))) (Tree.ret (SV.int .i64 2)) (Tree.ret (SV.int .i64 0))).holds Tryz.prog ⟨w, H⟩ (RetS w H (.int .i64 (fitsErr (d.to Int) (WtD.wt ⟨y, s, e⟩))))) := by
      refine ⟨fun h6 => ret_int ?_, fun h6 => ret_int ?_⟩
      · have := of_decide_eq_true h6; rw [hw] at this; rw [ef, if_pos (by omega)]
      · have := of_decide_eq_false h6; rw [hw] at this; rw [ef, if_neg (by omega)]
    repeat' first
    | exact h4
    | exact h5
    | exact c1
    | exact c2
    | exact fin
    | refine ⟨?_, ?_⟩
end Go.Proofs.YtllmgnhjljmihaaGreat
end
section
open Go Go.Proofs Sx
namespace Go.Proofs.YtllmgnhjljmihaaGreat
set_option maxRecDepth 100000
set_option maxHeartbeats 0
section
variable (n j k w : Int) (d e a b i o ha hb hc ga gb gc : D) (v s : Int)
theorem any_in : exec Tryz.prog [(103, ctrOf ((rdD.two (rdFn 102)).sp spIdxBad))] 200 (entry Tryz.prog 91 [.dat d, .fn 102 [] []]) =
 Tree.need (D.Is Int d ∧ D.len d ≤ 1048576) (.ret (.bool (decide (idxP (D.to Int d) badSize ≥ 0)))) := by kernel_rfl

theorem cs_in : exec Tryz.prog [(91, ctrOf ((rdD.two (rdFn 102)).sp spAnyBad))] 200 (entry Tryz.prog 88 [.dat d]) =
 Tree.br (decide ((↑(D.len d) : Int) < 1)) (.ret (.int .i64 6))
 (.br (decide ((↑(D.len d) : Int) > 8)) (.ret (.int .i64 6))
 (.need (D.Is Int d ∧ D.len d ≤ 1048576)
 (.br (List.any (D.to Int d) badSize) (.ret (.int .i64 2)) (.ret (.int .i64 0))))) := by kernel_rfl

theorem new_in : exec Tryz.prog [(88, ctrOf (rdD.one.sp spSizes)), (89, ctrOf ((rdD.two (rdFn 90)).sp spMapN))] 200 (entry Tryz.prog 57 [.dat d]) =
 Tree.need (D.Is Int d ∧ D.len d ≤ 1048576)
 (.br (sizesErr (D.to Int d) != 0) (.ret (SV.tup [.nils, .int .i64 (sizesErr (D.to Int d))]))
 (.need (D.Is Int d ∧ D.len d ≤ 8 ∧ ∀ (n : Int), List.Mem n (D.to Int d) → 0 ≤ n ∧ n ≤ 4096)
 (.all fun hs =>
 .ret (SV.tup [.dat (D.like (hs 0 0) (List.map volOf (D.to Int d))), .int .i64 0])))) := by kernel_rfl

theorem sz_in : exec Tryz.prog [(109, ctrOf ((rdD.two (rdFn 110)).sp spMapS))] 200 (entry Tryz.prog 108 [.dat d]) =
 Tree.need (D.Is Vol d ∧ D.len d ≤ 1048576)
 (.all fun hs => .ret (.dat (D.like (hs 0 0) (volSizes (D.to Vol d))))) := by kernel_rfl

theorem chk_in : exec Tryz.prog [(108, ctrOf (rdD.one.sp spSzs)), (88, ctrOf (rdD.one.sp spSizes))] 200 (entry Tryz.prog 104 [.dat d]) =
 Tree.need (D.Is Vol d ∧ D.len d ≤ 1048576)
 (.all fun hs =>
 .need
 (D.Is Int (D.like (hs 0 0) (volSizes (D.to Vol d))) ∧ D.len (D.like (hs 0 0) (volSizes (D.to Vol d))) ≤ 1048576)
 (.ret (.int .i64 (sizesErr (D.to Int (D.like (hs 0 0) (volSizes (D.to Vol d)))))))) := by kernel_rfl

theorem fits_in : exec Tryz.prog [(104, ctrOf (rdD.one.sp spChkI)), (105, ctrOf ((rdD.two rdWt).sp spFits1))] 200 (entry Tryz.prog 95 [.dat d, .agg [.int .i64 v, .int .i64 s, .dat e]]) =
 Tree.need (D.Is Vol d ∧ D.len d ≤ 1048576)
 (.br (sizesErr (volSizes (D.to Vol d)) != 0) (.ret (.int .i64 (sizesErr (volSizes (D.to Vol d)))))
 (.need (ImgOk d ∧ WtD.Ok (WtD.mk v s e))
 (.ret (.int .i64 (fitsErr (volSizes (D.to Vol d)) (WtD.wt (WtD.mk v s e))))))) := by kernel_rfl

theorem ints_in : exec Tryz.prog [] 200 (entry Tryz.prog 38 [.dat a, .dat b]) =
 Tree.br ((↑(D.len a) : Int) != (↑(D.len b) : Int)) (.ret (.lb false))
 (.leaf
 (Conf.mk
 (SFrm.mk 38 none none
 [Item.inLoop (cAt Tryz.prog 38 [1, 1, 0, 1, 0, 0]), Item.inBlock 0, Item.code (cAt Tryz.prog 38 [1, 1, 1])]
 (mkJ 0 [(0, .dat a), (1, .dat b), (5, .int .i64 0)] 0 26))
 [] [])) := by kernel_rfl

theorem secs_in : exec Tryz.prog [] 200 (entry Tryz.prog 81 [.dat a, .dat b]) =
 Tree.br ((↑(D.len a) : Int) != (↑(D.len b) : Int)) (.ret (.lb false))
 (.leaf
 (Conf.mk
 (SFrm.mk 81 none none
 [Item.inLoop (cAt Tryz.prog 81 [1, 1, 0, 1, 0, 0]), Item.inBlock 0, Item.code (cAt Tryz.prog 81 [1, 1, 1])]
 (mkJ 0 [(0, .dat a), (1, .dat b), (5, .int .i64 0)] 0 26))
 [] [])) := by kernel_rfl

theorem wts_in : exec Tryz.prog [] 200 (entry Tryz.prog 49 [.dat a, .dat b]) =
 Tree.br ((↑(D.len a) : Int) != (↑(D.len b) : Int)) (.ret (.lb false))
 (.leaf
 (Conf.mk
 (SFrm.mk 49 none none
 [Item.inLoop (cAt Tryz.prog 49 [1, 1, 0, 1, 0, 0]), Item.inBlock 0, Item.code (cAt Tryz.prog 49 [1, 1, 1])]
 (mkJ 0 [(0, .dat a), (1, .dat b), (5, .int .i64 0)] 0 55))
 [] [])) := by kernel_rfl

end
end Go.Proofs.YtllmgnhjljmihaaGreat
end
section
open Go Go.Proofs Sx
namespace Go.Proofs.YtllmgnhjljmihaaGreat
set_option maxRecDepth 100000
set_option maxHeartbeats 0
noncomputable def intsL (a b : D) (j : Int) : Conf := Conf.mk (SFrm.mk 38 none none [Item.inLoop (cAt Tryz.prog 38 [1, 1, 0, 1, 0, 0]), Item.inBlock 0, Item.code (cAt Tryz.prog 38 [1, 1, 1])]
 (mkJ 0 [(0, .dat a), (1, .dat b), (5, .int .i64 j)] 0 26)) [] []
noncomputable def secsL (a b : D) (j : Int) : Conf := Conf.mk (SFrm.mk 81 none none [Item.inLoop (cAt Tryz.prog 81 [1, 1, 0, 1, 0, 0]), Item.inBlock 0, Item.code (cAt Tryz.prog 81 [1, 1, 1])]
 (mkJ 0 [(0, .dat a), (1, .dat b), (5, .int .i64 j)] 0 26)) [] []
noncomputable def wtsL (a b : D) (j : Int) : Conf := Conf.mk (SFrm.mk 49 none none [Item.inLoop (cAt Tryz.prog 49 [1, 1, 0, 1, 0, 0]), Item.inBlock 0, Item.code (cAt Tryz.prog 49 [1, 1, 1])]
 (mkJ 0 [(0, .dat a), (1, .dat b), (5, .int .i64 j)] 0 55)) [] []
section
variable (n j k w : Int) (d e a b i o ha hb hc : D) (v s : Int)
theorem ints_go : exec Tryz.prog [] 200 (unroll (intsL a b j)) =
 Tree.br (decide (j < (↑(D.len a) : Int)))
 (.all fun hs =>
 .need (0 ≤ j ∧ j < (↑(D.len a) : Int) ∧ D.sz a = 1)
 (.need (D.HasCell a (Int.toNat j) 0 (FT.int .i64))
 (.need (0 ≤ j ∧ j < (↑(D.len b) : Int) ∧ D.sz b = 1)
 (.need (D.HasCell b (Int.toNat j) 0 (FT.int .i64))
 (.br (D.getInt a (Int.toNat j) 0 != D.getInt b (Int.toNat j) 0) (.ret (.lb false))
 (.leaf
 (Conf.mk
 (SFrm.mk 38 none none
 [Item.inLoop (cAt Tryz.prog 38 [1, 1, 0, 1, 0, 0]), Item.inBlock 0,
 Item.code (cAt Tryz.prog 38 [1, 1, 1])]
 (mkJ 0 [(0, .dat a), (1, .dat b), (5, .int .i64 (IntKind.wrap .i64 (j + 1)))] 0
 26))
 [] [])))))))
 (.ret (.lb true)) := by kernel_rfl

theorem secs_go : exec Tryz.prog [] 200 (unroll (secsL a b j)) =
 Tree.br (decide (j < (↑(D.len a) : Int)))
 (.all fun hs =>
 .need (0 ≤ j ∧ j < (↑(D.len a) : Int) ∧ D.sz a = 8)
 (.need
 (D.HasCells a (Int.toNat j) 0
 [FT.int .u8, FT.int .u8, FT.int .u8, FT.int .u8, FT.int .u8,
 FT.int .u8, FT.int .u8, FT.int .u8])
 (.need (0 ≤ j ∧ j < (↑(D.len b) : Int) ∧ D.sz b = 8)
 (.need
 (D.HasCells b (Int.toNat j) 0
 [FT.int .u8, FT.int .u8, FT.int .u8, FT.int .u8, FT.int .u8,
 FT.int .u8, FT.int .u8, FT.int .u8])
 (.br
 (!(decide (D.getInt a (Int.toNat j) 0 = D.getInt b (Int.toNat j) 0) &&
 (decide (D.getInt a (Int.toNat j) 1 = D.getInt b (Int.toNat j) 1) &&
 (decide (D.getInt a (Int.toNat j) 2 = D.getInt b (Int.toNat j) 2) &&
 (decide (D.getInt a (Int.toNat j) 3 = D.getInt b (Int.toNat j) 3) &&
 (decide (D.getInt a (Int.toNat j) 4 = D.getInt b (Int.toNat j) 4) &&
 (decide (D.getInt a (Int.toNat j) 5 = D.getInt b (Int.toNat j) 5) &&
 (decide (D.getInt a (Int.toNat j) 6 = D.getInt b (Int.toNat j) 6) &&
 (decide (D.getInt a (Int.toNat j) 7 = D.getInt b (Int.toNat j) 7) && true)))))))))
 (.ret (.lb false))
 (.leaf
 (Conf.mk
 (SFrm.mk 81 none none
 [Item.inLoop (cAt Tryz.prog 81 [1, 1, 0, 1, 0, 0]), Item.inBlock 0,
 Item.code (cAt Tryz.prog 81 [1, 1, 1])]
 (mkJ 0 [(0, .dat a), (1, .dat b), (5, .int .i64 (IntKind.wrap .i64 (j + 1)))] 0
 26))
 [] [])))))))
 (.ret (.lb true)) := by kernel_rfl

theorem wts_go : exec Tryz.prog [(81, ctrOf ((rdD.two rdD).sp spSecs))] 300 (unroll (wtsL a b j)) =
 Tree.br (decide (j < (↑(D.len a) : Int)))
 (.all fun hs =>
 .br (D.getInt a (Int.toNat j) 0 != D.getInt b (Int.toNat j) 0)
 (.need (0 ≤ j ∧ j < (↑(D.len a) : Int) ∧ D.sz a = 3)
 (.need (D.HasCell a (Int.toNat j) 0 (FT.int .i64))
 (.need (0 ≤ j ∧ j < (↑(D.len b) : Int) ∧ D.sz b = 3)
 (.need (D.HasCell b (Int.toNat j) 0 (FT.int .i64))
 (.need ((D.getInt a (Int.toNat j) 0 != D.getInt b (Int.toNat j) 0) = true)
 (.need ((D.getInt a (Int.toNat j) 0 != D.getInt b (Int.toNat j) 0) = true)
 (.need ((D.getInt a (Int.toNat j) 0 != D.getInt b (Int.toNat j) 0) = true)
 (.need ((D.getInt a (Int.toNat j) 0 != D.getInt b (Int.toNat j) 0) = true)
 (.need ((D.getInt a (Int.toNat j) 0 != D.getInt b (Int.toNat j) 0) = true)
 (.need ((D.getInt a (Int.toNat j) 0 != D.getInt b (Int.toNat j) 0) = true)
 (.need ((D.getInt a (Int.toNat j) 0 != D.getInt b (Int.toNat j) 0) = true)
 (.need ((D.getInt a (Int.toNat j) 0 != D.getInt b (Int.toNat j) 0) = true)
 (.need ((D.getInt a (Int.toNat j) 0 != D.getInt b (Int.toNat j) 0) = true)
 (.need ((D.getInt a (Int.toNat j) 0 != D.getInt b (Int.toNat j) 0) = true)
 (.need ((D.getInt a (Int.toNat j) 0 != D.getInt b (Int.toNat j) 0) = true)
 (.need ((D.getInt a (Int.toNat j) 0 != D.getInt b (Int.toNat j) 0) = true)
 (.ret (.lb false))))))))))))))))))
 (.br (D.getInt a (Int.toNat j) 1 != D.getInt b (Int.toNat j) 1)
 (.need (0 ≤ j ∧ j < (↑(D.len a) : Int) ∧ D.sz a = 3)
 (.need (D.HasCell a (Int.toNat j) 0 (FT.int .i64))
 (.need (0 ≤ j ∧ j < (↑(D.len b) : Int) ∧ D.sz b = 3)
 (.need (D.HasCell b (Int.toNat j) 0 (FT.int .i64))
 (.need ((D.getInt a (Int.toNat j) 0 != D.getInt b (Int.toNat j) 0) = false)
 (.need ((D.getInt a (Int.toNat j) 0 != D.getInt b (Int.toNat j) 0) = false)
 (.need ((D.getInt a (Int.toNat j) 0 != D.getInt b (Int.toNat j) 0) = false)
 (.need (0 ≤ j ∧ j < (↑(D.len a) : Int) ∧ D.sz a = 3)
 (.need ((D.getInt a (Int.toNat j) 0 != D.getInt b (Int.toNat j) 0) = false)
 (.need ((D.getInt a (Int.toNat j) 0 != D.getInt b (Int.toNat j) 0) = false)
 (.need (D.HasCell a (Int.toNat j) 1 (FT.int .i64))
 (.need ((D.getInt a (Int.toNat j) 0 != D.getInt b (Int.toNat j) 0) = false)
 (.need ((D.getInt a (Int.toNat j) 0 != D.getInt b (Int.toNat j) 0) = false)
 (.need ((D.getInt a (Int.toNat j) 0 != D.getInt b (Int.toNat j) 0) = false)
 (.need (0 ≤ j ∧ j < (↑(D.len b) : Int) ∧ D.sz b = 3)
 (.need ((D.getInt a (Int.toNat j) 0 != D.getInt b (Int.toNat j) 0) = false)
 (.need ((D.getInt a (Int.toNat j) 0 != D.getInt b (Int.toNat j) 0) = false)
 (.need (D.HasCell b (Int.toNat j) 1 (FT.int .i64))
 (.need
 ((D.getInt a (Int.toNat j) 0 != D.getInt b (Int.toNat j) 0) = false)
 (.need
 ((D.getInt a (Int.toNat j) 0 != D.getInt b (Int.toNat j) 0) = false)
 (.need
 ((D.getInt a (Int.toNat j) 1 != D.getInt b (Int.toNat j) 1) = true)
 (.need
 ((D.getInt a (Int.toNat j) 1 != D.getInt b (Int.toNat j) 1) = true)
 (.need
 ((D.getInt a (Int.toNat j) 1 != D.getInt b (Int.toNat j) 1) =
 true)
 (.need
 ((D.getInt a (Int.toNat j) 1 != D.getInt b (Int.toNat j) 1) =
 true)
 (.need
 ((D.getInt a (Int.toNat j) 1 != D.getInt b (Int.toNat j) 1) =
 true)
 (.need
 ((D.getInt a (Int.toNat j) 1 !=
 D.getInt b (Int.toNat j) 1) =
 true)
 (.need
 ((D.getInt a (Int.toNat j) 1 !=
 D.getInt b (Int.toNat j) 1) =
 true)
 (.need
 ((D.getInt a (Int.toNat j) 1 !=
 D.getInt b (Int.toNat j) 1) =
 true)
 (.need
 ((D.getInt a (Int.toNat j) 1 !=
 D.getInt b (Int.toNat j) 1) =
 true)
 (.need
 ((D.getInt a (Int.toNat j) 1 !=
 D.getInt b (Int.toNat j) 1) =
 true)
 (.need
 ((D.getInt a (Int.toNat j) 1 !=
 D.getInt b (Int.toNat j) 1) =
 true)
 (.need
 ((D.getInt a (Int.toNat j) 1 !=
 D.getInt b (Int.toNat j) 1) =
 true)
 (.need
 ((D.getInt a (Int.toNat j) 1 !=
 D.getInt b (Int.toNat j) 1) =
 true)
 (.ret
 (.lb
 false)))))))))))))))))))))))))))))))))))
 (.need (0 ≤ j ∧ j < (↑(D.len a) : Int) ∧ D.sz a = 3)
 (.need (D.HasCell a (Int.toNat j) 0 (FT.int .i64))
 (.need (0 ≤ j ∧ j < (↑(D.len b) : Int) ∧ D.sz b = 3)
 (.need (D.HasCell b (Int.toNat j) 0 (FT.int .i64))
 (.need ((D.getInt a (Int.toNat j) 0 != D.getInt b (Int.toNat j) 0) = false)
 (.need ((D.getInt a (Int.toNat j) 0 != D.getInt b (Int.toNat j) 0) = false)
 (.need ((D.getInt a (Int.toNat j) 0 != D.getInt b (Int.toNat j) 0) = false)
 (.need (0 ≤ j ∧ j < (↑(D.len a) : Int) ∧ D.sz a = 3)
 (.need ((D.getInt a (Int.toNat j) 0 != D.getInt b (Int.toNat j) 0) = false)
 (.need ((D.getInt a (Int.toNat j) 0 != D.getInt b (Int.toNat j) 0) = false)
 (.need (D.HasCell a (Int.toNat j) 1 (FT.int .i64))
 (.need ((D.getInt a (Int.toNat j) 0 != D.getInt b (Int.toNat j) 0) = false)
 (.need ((D.getInt a (Int.toNat j) 0 != D.getInt b (Int.toNat j) 0) = false)
 (.need ((D.getInt a (Int.toNat j) 0 != D.getInt b (Int.toNat j) 0) = false)
 (.need (0 ≤ j ∧ j < (↑(D.len b) : Int) ∧ D.sz b = 3)
 (.need ((D.getInt a (Int.toNat j) 0 != D.getInt b (Int.toNat j) 0) = false)
 (.need ((D.getInt a (Int.toNat j) 0 != D.getInt b (Int.toNat j) 0) = false)
 (.need (D.HasCell b (Int.toNat j) 1 (FT.int .i64))
 (.need
 ((D.getInt a (Int.toNat j) 0 != D.getInt b (Int.toNat j) 0) = false)
 (.need
 ((D.getInt a (Int.toNat j) 0 != D.getInt b (Int.toNat j) 0) = false)
 (.need
 ((D.getInt a (Int.toNat j) 1 != D.getInt b (Int.toNat j) 1) = false)
 (.need
 ((D.getInt a (Int.toNat j) 1 != D.getInt b (Int.toNat j) 1) = false)
 (.need
 ((D.getInt a (Int.toNat j) 1 != D.getInt b (Int.toNat j) 1) =
 false)
 (.need (0 ≤ j ∧ j < (↑(D.len a) : Int) ∧ D.sz a = 3)
 (.need
 ((D.getInt a (Int.toNat j) 1 != D.getInt b (Int.toNat j) 1) =
 false)
 (.need
 ((D.getInt a (Int.toNat j) 1 !=
 D.getInt b (Int.toNat j) 1) =
 false)
 (.need (D.HasCell a (Int.toNat j) 2 FT.slc)
 (.need
 ((D.getInt a (Int.toNat j) 1 !=
 D.getInt b (Int.toNat j) 1) =
 false)
 (.need
 ((D.getInt a (Int.toNat j) 1 !=
 D.getInt b (Int.toNat j) 1) =
 false)
 (.need
 ((D.getInt a (Int.toNat j) 1 !=
 D.getInt b (Int.toNat j) 1) =
 false)
 (.need
 (0 ≤ j ∧ j < (↑(D.len b) : Int) ∧ D.sz b = 3)
 (.need
 ((D.getInt a (Int.toNat j) 1 !=
 D.getInt b (Int.toNat j) 1) =
 false)
 (.need
 ((D.getInt a (Int.toNat j) 1 !=
 D.getInt b (Int.toNat j) 1) =
 false)
 (.need
 (D.HasCell b (Int.toNat j) 2 FT.slc)
 (.need
 ((D.getInt a (Int.toNat j) 1 !=
 D.getInt b (Int.toNat j) 1) =
 false)
 (.need
 (D.Is Sec (D.cell a (Int.toNat j) 2) ∧
 D.Is Sec (D.cell b (Int.toNat j) 2) ∧
 D.len (D.cell a (Int.toNat j) 2) ≤
 1048576)
 (.need
 ((D.getInt a (Int.toNat j) 1 !=
 D.getInt b (Int.toNat j) 1) =
 false)
 (.need
 ((D.getInt a (Int.toNat j) 1 !=
 D.getInt b (Int.toNat j) 1) =
 false)
 (.br
 (!decide
 (D.to Sec
 (D.cell a (Int.toNat j)
 2) =
 D.to Sec
 (D.cell b (Int.toNat j)
 2)))
 (.ret (.lb false))
 (.leaf
 (Conf.mk
 (SFrm.mk 49 none none
 [Item.inLoop
 (cAt Tryz.prog 49
 [1, 1, 0, 1, 0, 0]),
 Item.inBlock 0,
 Item.code
 (cAt Tryz.prog 49
 [1, 1, 1])]
 (mkJ 0
 [(0, .dat a),
 (1, .dat b),
 (5,
 .int .i64
 (IntKind.wrap
 .i64
 (j + 1)))]
 0 55))
 []
 [])))))))))))))))))))))))))))))))))))))))))))
 (.ret (.lb true)) := by kernel_rfl

end
end Go.Proofs.YtllmgnhjljmihaaGreat
end
