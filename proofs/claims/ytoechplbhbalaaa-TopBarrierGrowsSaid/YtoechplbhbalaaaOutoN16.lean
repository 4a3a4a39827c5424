/- Regions whose order is drawn: one order is walked, in the order of the text; a check says that all others come to the same. -/
import Derived.Test.YtoechplbhbalaaaJtoOt
import Derived.ProofKit
import Derived.OpenShut
import Derived.Below
import Derived.Carry
import Derived.Deep.Slices
import Derived.ChangeOld
import Derived.Sort.Row
set_option linter.all false
set_option maxRecDepth 100000
set_option maxHeartbeats 0
noncomputable section
namespace Sx
open Go RowKit

section
variable {P : Program} {C : Ctx} {cs : Ctrs} {ops : Array Oper} {depth : Nat}
structure Chk (P : Program) (cs : Ctrs) (ops : Array Oper) (depth : Nat) (s : List SV × Mem) (hs : Nat → Nat → D) (Fin : List SV × Mem → Prop) : Prop where
 ex : ∃ dec r,Goes P cs ops depth dec hs r (List.range ops.size) s ∧ (∀ i,i < ops.size → ∀ p,p ∈ (r i).ps → p) ∧
  (∀ x i,x < i → i < ops.size → ((masks ops.toList []).getD i 0).testBit x = false → Indep ops x i (r x) (r i)) ∧
  (∀ j i,j < ops.size → i < ops.size → i ≠ j → ((masks ops.toList []).getD j 0).testBit i = false → dstKey depth (dstOf ops i) ∉ (r j).named) ∧
  (allR ops r (List.range ops.size) s).2.Pairwise (fun x y=>x.1 ≠ y.1) ∧ Fin (allR ops r (List.range ops.size) s)

theorem Begun.nodup {l : List Nat} (h : Begun ops l) : l.Nodup ∧ ∀ i,i ∈ l → i < ops.size := by
 induction h with
 | nil=>simp
 | snoc h hi hlt hp ih =>
  refine ⟨?_,fun k hk=>?_⟩
  ·rw [List.nodup_append]
   exact ⟨ih.1,by simp,fun a ha b hb=>by rw [List.mem_singleton.1 hb]; exact fun e=>hi (e ▸ ha)⟩
  ·rcases List.mem_append.1 hk with hk | hk
   ·exact ih.2 k hk
   ·rw [List.mem_singleton.1 hk]; exact hlt

theorem named_set {m : Mem} {K : Nat} {o : OBlk} {key : Nat} (h : key ∈ Mem.named (m.set K o)) : key ∈ Mem.named m ∨ key ∈ o.keys := by
 induction m with
 | nil=>cases h
 | cons x r ih =>
  obtain ⟨j,p⟩ := x
  simp only [Mem.set] at h
  split at h
  ·simp only [Mem.named,List.flatMap_cons,List.mem_append,List.mem_cons] at h ⊢
   rcases h with (h | h) | h
   ·exact .inl (.inl (.inl h))
   ·exact .inr h
   ·exact .inl (.inr h)
  ·simp only [Mem.named,List.flatMap_cons,List.mem_append,List.mem_cons] at h ⊢ ih
   rcases h with h | h
   ·exact .inl (.inl h)
   ·rcases ih h with h | h
    ·exact .inl (.inr h)
    ·exact .inr h

theorem named_get {m : Mem} {K : Nat} {o : OBlk} {key : Nat} (hg : m.get K = some o) (h : key ∈ o.keys) : key ∈ Mem.named m := by
 simp only [Mem.named,List.mem_flatMap,List.mem_cons]
 exact ⟨_,Mem.get_mem hg,.inr h⟩

theorem insO_keys {k : IntKind} {n : Int} {v : SV} {o : OBlk} {key : Nat} (h : key ∈ (insO k n v o).keys) : key ∈ o.keys ∨ key ∈ v.keys := by
 cases o with
 | map es =>
  simp only [insO,OBlk.keys,List.mem_flatMap,List.mem_append] at h ⊢
  obtain ⟨e,he,h⟩ := h
  rcases List.mem_cons.1 ((insE_perm k n v es).subset he) with rfl | he
  ·simp [SV.keys] at h; exact .inr h
  ·exact .inl ⟨e,he,h⟩
 | _=>exact .inl h

theorem keysL_splice {cs vs : List SV} {a b key : Nat} (h : key ∈ SV.keysL (cs.take a ++ vs ++ cs.drop b)) : key ∈ SV.keysL cs ∨ key ∈ SV.keysL vs := by
 simp only [SV.mem_keysL,List.mem_append] at h ⊢
 obtain ⟨x,(hx | hx) | hx,hk⟩ := h
 ·exact .inl ⟨x,List.mem_of_mem_take hx,hk⟩
 ·exact .inr ⟨x,hx,hk⟩
 ·exact .inl ⟨x,List.mem_of_mem_drop hx,hk⟩

theorem named_apply {s : List SV × Mem} {i : Nat} {e : Eff} {key : Nat} (h1 : key ∉ SV.keysL s.1) (h2 : key ∉ Mem.named s.2) (h3 : key ∉ e.named) :
  key ∉ SV.keysL (applyR ops s i e).1 ∧ key ∉ Mem.named (applyR ops s i e).2 := by
 simp only [Eff.named,List.mem_append,not_or] at h3
 obtain ⟨⟨⟨n1,n2⟩,n3⟩,n4⟩ := h3
 constructor
 ·simp only [applyR]
  cases dstOf ops i with
  | none=>exact h1
  | some d =>
   simp only [putS]
   intro hk
   obtain ⟨x,hx,hkx⟩ := SV.mem_keysL.1 hk
   rcases List.mem_or_eq_of_mem_set hx with hx | rfl
   ·exact h1 (SV.mem_keysL.2 ⟨x,hx,hkx⟩)
   ·exact n1 hkx
 ·simp only [applyR,Eff.mem]
  cases hs : e.st with
  | some x =>
   obtain ⟨K,off,vs⟩ := x
   rw [hs] at n4
   simp only [List.mem_cons,not_or] at n4
   simp only
   cases hg : s.2.get K with
   | none=>exact h2
   | some o =>
    intro hk
    rcases named_set hk with hk | hk
    ·exact h2 hk
    ·cases o with
     | cells t cs =>
      simp only [updC,OBlk.keys] at hk
      rcases keysL_splice hk with hk | hk
      ·exact h2 (named_get hg hk)
      ·exact n4.2 hk
     | _=>exact h2 (named_get hg hk)
  | none =>
   simp only
   cases hi : e.ins with
   | some x =>
    obtain ⟨K,kd,n,v⟩ := x
    rw [hi] at n3
    simp only [List.mem_cons,not_or] at n3
    simp only
    cases hg : s.2.get K with
    | none=>exact h2
    | some o =>
     intro hk
     rcases named_set hk with hk | hk
     ·exact h2 hk
     ·rcases insO_keys hk with hk | hk
      ·exact h2 (named_get hg hk)
      ·exact n3.2 hk
   | none =>
    simp only
    cases ho : e.out with
    | none=>exact h2
    | some m =>
     simp only
     rw [ho] at n2
     intro hk
     simp only [Mem.named,List.flatMap_append,List.mem_append] at hk
     rcases hk with hk | hk
     ·exact n2 hk
     ·exact named_drop h2 hk

theorem named_all {r : Nat → Eff} {key : Nat} : ∀ {l : List Nat} {s : List SV × Mem},key ∉ SV.keysL s.1 → key ∉ Mem.named s.2 → (∀ i,i ∈ l → key ∉ (r i).named) →
  key ∉ SV.keysL (allR ops r l s).1 ∧ key ∉ Mem.named (allR ops r l s).2
 | [],_,h1,h2,_=>⟨h1,h2⟩
 | i :: l,s,h1,h2,h3=>by
  obtain ⟨a,b⟩ := named_apply (ops := ops) (i := i) h1 h2 (h3 i List.mem_cons_self)
  exact named_all (l := l) (s := applyR ops s i (r i)) a b fun j hj=>h3 j (List.mem_cons_of_mem _ hj)

theorem len_le : ∀ {n : Nat} {l : List Nat},l.Nodup → (∀ i,i ∈ l → i < n) → l.length ≤ n
 | 0,l,_,h=>by
  cases l with
  | nil=>simp
  | cons x r=>have := h x List.mem_cons_self; omega
 | n + 1,l,hn,h=>by
  have h1 : (l.erase n).Nodup := hn.erase n
  have h2 := len_le h1 (n := n) fun i hi=>by
   have := (List.Nodup.mem_erase_iff hn).1 hi
   have := h i this.2
   omega
  have h3 := List.length_erase (a := n) (l := l)
  split at h3 <;> omega

theorem full_of_len {l : List Nat} {n : Nat} (hnd : l.Nodup) (hlt : ∀ i,i ∈ l → i < n) (hlen : n ≤ l.length) : ∀ i,i < n → i ∈ l := by
 intro i hi
 rcases Classical.em (i ∈ l) with h | h
 ·exact h
 ·have := len_le (n := n) (List.nodup_cons.2 ⟨h,hnd⟩) fun j hj=>by
   rcases List.mem_cons.1 hj with rfl | hj
   ·exact hi
   ·exact hlt j hj
  simp only [List.length_cons] at this
  omega

theorem left_full {n : Nat} {l : List Nat} (h : ∀ i,i < n → i ∈ l) : left n l = [] := by
 simp only [left,List.filter_eq_nil_iff,List.mem_range]
 intro i hi
 simp [h i hi]
def Qi (P : Program) (ro : Option (List Deferred)) (f : FuncId) (ri : Option (Array Oper × List Nat)) (aw : Option Tmp) (k : List Item) (R : Value → World → Prop) : Exit → Act → World → Prop :=
 fun e a w=>e = .normal ∧ CFrm.run P ⟨f,ri,aw,k,a,ro⟩ w R
theorem ord_sound (hcs : cs.Ok P) {R : Value → World → Prop} {f : FuncId} {aw : Option Tmp} {k : List Item} {rest : List SFrm} {s0 : List SV × Mem} {E0 : Env} {ri : Option (Array Oper × List Nat)}
  (hchk : ∀ hs,Chk P cs ops depth s0 hs fun s=>Runs P C ⟨⟨f,ri,aw,k,s.1⟩,rest,s.2⟩ R)
  (hlt : ∀ i,i < ops.size → ∀ j,j ∈ predsOf ops i → j < i)
  (hfr : ∀ i,i < ops.size → dstKey depth (dstOf ops i) ∉ SV.keysL s0.1 ∧ dstKey depth (dstOf ops i) ∉ Mem.named s0.2 ∧ (∀ f,f ∈ rest → dstKey depth (dstOf ops i) ∉ SV.keysL f.tmps) ∧ dstKey depth (dstOf ops i) < PIN) :
  ∀ (fuel : Nat) (l : List Nat) (listed : Array Bool) (dec : List (Nat × Bool)) (hs : Nat → Nat → D) (r : Nat → Eff) (E : Env) (H : HV) (w : World),
   fuel + l.length = ops.size → Begun ops l → listed.size = ops.size → (∀ j,j < ops.size → listed[j]? = some (l.contains j)) →
   Goes P cs ops depth dec hs r l s0 → (∀ i,i ∈ l → ∀ p,p ∈ (r i).ps → p) →
   Good C (allR ops r l s0).2 E H w → SV.OkL H (allR ops r l s0).1 → (∀ f,f ∈ rest → SV.OkL H f.tmps) → rest.map (SFrm.den E) = rest.map (SFrm.den E0) →
   wpAny P .any ops (Qi P (roOf C.x rest) f ri aw k (restOf P C.x (rest.map (SFrm.den E0)) R)) fuel listed ⟨(SV.denL E (allR ops r l s0).1).toArray,dsOf C.x rest⟩ w := by
 intro fuel
 -- where all have come up
 have fin : ∀ (l : List Nat) (dec : List (Nat × Bool)) (hs : Nat → Nat → D) (r : Nat → Eff) (E : Env) (H : HV) (w : World),Begun ops l → (∀ i,i < ops.size → i ∈ l) →
   Goes P cs ops depth dec hs r l s0 → (∀ i,i ∈ l → ∀ p,p ∈ (r i).ps → p) →
   Good C (allR ops r l s0).2 E H w → SV.OkL H (allR ops r l s0).1 → (∀ f,f ∈ rest → SV.OkL H f.tmps) → rest.map (SFrm.den E) = rest.map (SFrm.den E0) →
   Qi P (roOf C.x rest) f ri aw k (restOf P C.x (rest.map (SFrm.den E0)) R) .normal ⟨(SV.denL E (allR ops r l s0).1).toArray,dsOf C.x rest⟩ w := by
  intro l dec hs r E H w hb hfull hgo hp g ok okr hrest
  obtain ⟨dec',r',h1,h2,h3,h4,h5,h6⟩ := (hchk hs).ex
  obtain ⟨g1,g2⟩ := begun_goes h1 h3 hb
  rw [left_full hfull,List.append_nil] at g1 g2
  have e := goes_det (fun _ _=>rfl) hgo g1 hp (fun i hi=>h2 i (hb.nodup.2 i hi))
  rw [e] at g ok ⊢
  have gg := g.alike (m' := (allR ops r' (List.range ops.size) s0).2) (fun k=>(g2.2 k).symm) h5
  have := h6 E H w gg ⟨by rw [g2.1]; exact ok,okr⟩
  rw [stkRun_eq,hrest] at this
  rw [← g2.1]
  exact ⟨rfl,this⟩
 induction fuel with
 | zero =>
  intro l listed dec hs r E H w hlen hb hsz hl hgo hp g ok okr hrest
  have hfull := full_of_len hb.nodup.1 hb.nodup.2 (by omega)
  refine ⟨?_,fin l dec hs r E H w hb hfull hgo hp g ok okr hrest⟩
  rw [List.eq_nil_iff_forall_not_mem]
  intro i hi
  obtain ⟨h0,o,ho,_⟩ := mem_ready.1 hi
  have hi' : i < ops.size := (Array.getElem?_eq_some_iff.1 ho).1
  have := hl i hi'
  simp only [Array.getD_eq_getD_getElem?,this,Option.getD_some] at h0
  simp [hfull i hi'] at h0
 | succ fuel ih =>
  intro l listed dec hs r E H w hlen hb hsz hl hgo hp g ok okr hrest
  refine ⟨fun hnil=>?_,fun i hi=>?_⟩
  ·-- the first that has not come up may come up
   refine fin l dec hs r E H w hb (fun i hi=>?_) hgo hp g ok okr hrest
   induction i using Nat.strongRecOn with
   | _ i ihi =>
    rcases Classical.em (i ∈ l) with h | h
    ·exact h
    ·exfalso
     have hmem : i ∈ Region.ready .any ops listed := by
      rw [mem_ready]
      refine ⟨by simp [Array.getD_eq_getD_getElem?,hl i hi,h],ops[i],by simp [hi],fun e he hb2=>?_⟩
      have hpe : e.on ∈ predsOf ops i := by
       simp only [predsOf,Array.getElem?_eq_getElem hi,List.mem_map,List.mem_filter]
       exact ⟨e,⟨by simpa using he,hb2⟩,rfl⟩
      have hlt' := hlt i hi _ hpe
      have := ihi e.on hlt' (by omega)
      simp [Array.getD_eq_getD_getElem?,hl e.on (by omega),this]
     rw [hnil] at hmem
     cases hmem
  ·obtain ⟨h0,o,ho,hall⟩ := mem_ready.1 hi
   have hi' : i < ops.size := (Array.getElem?_eq_some_iff.1 ho).1
   have hil : i ∉ l := by
    have := hl i hi'
    simp only [Array.getD_eq_getD_getElem?,this,Option.getD_some] at h0
    simpa using h0
   have hb' : Begun ops (l ++ [i]) := by
    refine .snoc hb hil hi' fun j hj=>?_
    simp only [predsOf,ho,List.mem_map,List.mem_filter] at hj
    obtain ⟨e,⟨he,hbe⟩,rfl⟩ := hj
    have h1 := hall e (by simpa using he) hbe
    have hjlt : e.on < ops.size := by
     rcases Nat.lt_or_ge e.on ops.size with h | h
     ·exact h
     ·rw [Array.getD_eq_getD_getElem?,Array.getElem?_eq_none (by omega)] at h1; simp at h1
    simp only [Array.getD_eq_getD_getElem?,hl _ hjlt,Option.getD_some] at h1
    simpa using h1
   obtain ⟨f1,f2,f3,f0⟩ := hfr i hi'
   -- nothing names its key yet
   have hnk : dstKey depth (dstOf ops i) ∉ SV.keysL (allR ops r l s0).1 ∧ dstKey depth (dstOf ops i) ∉ Mem.named (allR ops r l s0).2 := by
    obtain ⟨dec',r',h1,h2,h3,h4,h5,h6⟩ := (hchk hs).ex
    have g1 := (goes_append.1 (begun_goes h1 h3 hb).1).1
    rw [goes_det (fun _ _=>rfl) hgo g1 hp (fun i hi=>h2 i (hb.nodup.2 i hi))]
    refine named_all f1 f2 fun j hj=>h4 j i (hb.nodup.2 j hj) hi' (fun e=>hil (e ▸ hj)) ?_
    cases hbit : ((masks ops.toList []).getD j 0).testBit i with
    | false=>rfl
    | true=>exact absurd (masks_table j (by rw [masks_length]; simpa using hb.nodup.2 j hj) l hb (fun q hq=>hb.closed j hj q hq) i hbit) hil
   refine stepR_sound (rest := rest) (depth := depth) (hs := hs) hcs g ok hnk.1 hnk.2 f3 f0 fun hh=>?_
   obtain ⟨dec',r',h1,h2,h3,h4,h5,h6⟩ := (hchk (setHs hs i hh)).ex
   have g1 := (goes_append.1 (begun_goes h1 h3 hb').1).1
   have g2 := goes_append.1 g1
   have hag : ∀ j,j ∈ l → hs j = setHs hs i hh j := fun j hj=>by
    have : j ≠ i := fun e=>hil (e ▸ hj)
    simp [setHs,this]
   have e := goes_det hag hgo g2.1 hp (fun i hi=>h2 i (hb.nodup.2 i hi))
   have hstep := g2.2.1
   rw [← e] at hstep
   refine ⟨dec',r' i,hstep,h2 i hi',fun E' H' w' g' hnear hle okk=>?_⟩
   have e2 : applyR ops (allR ops r l s0) i (r' i) = allR ops r' (l ++ [i]) s0 := by rw [allR_append,e]; rfl
   rw [e2] at g' okk ⊢
   refine ih (l ++ [i]) (listed.setIfInBounds i true) dec' (setHs hs i hh) r' E' H' w' (by simp; omega) hb' (by simpa using hsz) (fun j hj=>?_) g1
    (fun j hj=>h2 j (hb'.nodup.2 j hj)) g' okk (fun f hf=>SV.OkL.mono hle _ (okr f hf)) (hnear.2.trans hrest)
   by_cases hji : j = i
   ·subst hji
    simp [hsz,hj]
   ·rw [Array.getElem?_setIfInBounds_ne (Ne.symm hji),hl j hj]
    simp [hji]

/-! ### The walk and its check, to be computed -/

inductive CRes where
 | done (s : List SV × Mem) (es : List Eff)
 | ask (t : Nat) (b : Bool)
 | bad

def CRes.cons (e : Eff) : CRes → CRes
 | .done s es=>.done s (e :: es)
 | r=>r

def Eff.nz {β : Type _} (e : Eff) (k : Eff → β) : β :=
 match e with
 | ⟨ps,v,T,out,ins,st,ld⟩=>v.nz2 fun v=>match out with
  | none=>k ⟨ps,v,T,none,ins,st,ld⟩
  | some m=>nzM m fun m=>k ⟨ps,v,T,some m,ins,st,ld⟩

theorem Eff.nz_eq {β : Type _} (e : Eff) (k : Eff → β) : e.nz k = k e := by
 obtain ⟨ps,v,T,out,ins,st,ld⟩ := e
 simp only [Eff.nz,SV.nz2_eq]
 cases out with
 | none=>rfl
 | some m=>simp only [nzM_eq]

def canonR (P : Program) (cs : Ctrs) (ops : Array Oper) (depth : Nat) (dec : List (Nat × Bool)) (hs : Nat → Nat → D) : List Nat → List SV × Mem → CRes
 | [],s=>.done s []
 | i :: l,s=>match stepR P cs ops depth dec hs s i with
  | .ok e=>e.nz fun e=>nzS (applyR ops s i e).1 (applyR ops s i e).2 fun t m=>(canonR P cs ops depth dec hs l (t,m)).cons e
  | .ask t b=>.ask t b
  | .bad=>.bad

theorem canonR_spec {dec : List (Nat × Bool)} {hs : Nat → Nat → D} : ∀ {n a : Nat} {s s' : List SV × Mem} {es : List Eff},canonR P cs ops depth dec hs (List.range' a n) s = .done s' es →
  ∀ r : Nat → Eff,(∀ k,k < n → r (a + k) = es.getD k ⟨[],.undef,[],none,none,none,none⟩) → es.length = n ∧ Goes P cs ops depth dec hs r (List.range' a n) s ∧ allR ops r (List.range' a n) s = s'
 | 0,a,s,s',es,h,r,_=>by
  simp only [List.range'_zero,canonR,CRes.done.injEq] at h
  obtain ⟨rfl,rfl⟩ := h
  exact ⟨rfl,trivial,rfl⟩
 | n + 1,a,s,s',es,h,r,hr=>by
  simp only [List.range'_succ,canonR] at h
  split at h
  ·rename_i e he
   simp only [Eff.nz_eq,nzS_eq] at h
   cases hc : canonR P cs ops depth dec hs (List.range' (a + 1) n) (applyR ops s a e) with
   | done s2 es2 =>
    rw [show ((applyR ops s a e).1,(applyR ops s a e).2) = applyR ops s a e from rfl,hc] at h
    simp only [CRes.cons,CRes.done.injEq] at h
    obtain ⟨rfl,rfl⟩ := h
    have h0 : r a = e := by have := hr 0 (by omega); simpa using this
    obtain ⟨i1,i2,i3⟩ := canonR_spec hc r (fun k hk=>by have := hr (k + 1) (by omega); rw [show a + 1 + k = a + (k + 1) from by omega]; simpa using this)
    refine ⟨by simp [i1],?_,?_⟩
    ·simp only [List.range'_succ,Goes,h0]; exact ⟨he,i2⟩
    ·simp only [List.range'_succ,allR,h0]; exact i3
   | ask t b=>rw [show ((applyR ops s a e).1,(applyR ops s a e).2) = applyR ops s a e from rfl,hc] at h; cases h
   | bad=>rw [show ((applyR ops s a e).1,(applyR ops s a e).2) = applyR ops s a e from rfl,hc] at h; cases h
  ·cases h
  ·cases h
structure Row where
 anc : Nat
 dst : Nat
 uses : Nat
 rd : Nat
 wr : Nat
 key : Nat
 named : Nat
 ins : Nat
 st : Option (Nat × Nat × Nat)
 ld : Option (Nat × Nat × Nat)

def maskD (d : Option Tmp) : Nat := match d with | some t=>2 ^ t | none=>0

def rowOf (ops : Array Oper) (depth : Nat) (ms : List Nat) (i : Nat) (e : Eff) : Row :=
 ⟨ms.getD i 0,maskD (dstOf ops i),maskN (usesAt ops i),maskN e.T,maskN e.wr,dstKey depth (dstOf ops i),maskN e.named,match e.ins with | some (K,_)=>K + 1 | none=>0,match e.st with | some (K,o,vs)=>some (K,o,vs.length) | none=>none,e.ld⟩

def apartB (a b : Option (Nat × Nat × Nat)) : Bool :=
 match a,b with
 | some (K,o,n),some (K',o',n')=>Nat.beq K K' && (Nat.ble (o + n) o' || Nat.ble (o' + n') o)
 | _,_=>false

def posB (a : Option (Nat × Nat × Nat)) : Bool :=
 match a with
 | some (_,_,n)=>Nat.blt 0 n
 | none=>false

theorem apartB_spec {a b : Option (Nat × Nat × Nat)} (h : apartB a b = true) : ∃ K o n o' n',a = some (K,o,n) ∧ b = some (K,o',n') ∧ Apart o n o' n' := by
 unfold apartB at h
 split at h
 ·rename_i K o n K' o' n'
  simp only [Bool.and_eq_true,Bool.or_eq_true] at h
  have hK := Nat.eq_of_beq_eq_true h.1
  subst hK
  refine ⟨K,o,n,o',n',rfl,rfl,?_⟩
  rcases h.2 with h | h
  ·exact .inl (Nat.le_of_ble_eq_true h)
  ·exact .inr (Nat.le_of_ble_eq_true h)
 ·cases h

def pairOk (x : Nat) (a b : Row) : Bool :=
 b.anc.testBit x || (Nat.beq (a.dst &&& (b.uses ||| b.dst)) 0 && Nat.beq (b.dst &&& a.uses) 0 &&
  ((Nat.beq (a.wr &&& (b.rd ||| b.wr)) 0 && Nat.beq (b.wr &&& a.rd) 0) || (Nat.beq a.ins b.ins && !Nat.beq a.ins 0) ||
   (apartB a.ld b.st && posB a.ld) || (apartB a.st b.ld && posB b.ld) || apartB a.st b.st))

def pairsX : Nat → List Row → Row → Bool
 | _,[],_=>true
 | x,a :: r,b=>pairOk x a b && pairsX (x + 1) r b

def pairsAll : List Row → List Row → Bool
 | _,[]=>true
 | pre,b :: r=>pairsX 0 pre b && pairsAll (pre ++ [b]) r
def forb (j : Nat) (b : Row) : Nat → List Row → Nat
 | _,[]=>0
 | i,a :: r=>if Nat.beq i j || b.anc.testBit i then forb j b (i + 1) r else 2 ^ a.key ||| forb j b (i + 1) r

def namedAll (rows : List Row) : Nat → List Row → Bool
 | _,[]=>true
 | j,b :: r=>Nat.beq (b.named &&& forb j b 0 rows) 0 && namedAll rows (j + 1) r

def rowsFrom (ops : Array Oper) (depth : Nat) (ms : List Nat) : Nat → List Eff → List Row
 | _,[]=>[]
 | i,e :: r=>rowOf ops depth ms i e :: rowsFrom ops depth ms (i + 1) r

def keysMask (depth : Nat) : List Oper → Nat
 | []=>0
 | o :: r=>2 ^ dstKey depth o.dst ||| keysMask depth r

def distinct : Nat → List Nat → Bool
 | _,[]=>true
 | s,k :: r=>!s.testBit k && distinct (2 ^ k ||| s) r

def below : Nat → List Nat → Bool
 | _,[]=>true
 | i,a :: r=>Nat.blt a (2 ^ i) && below (i + 1) r

def checkR (ops : Array Oper) (depth : Nat) (ms : List Nat) (es : List Eff) (m : Mem) : Bool :=
 pairsAll [] (rowsFrom ops depth ms 0 es) && namedAll (rowsFrom ops depth ms 0 es) 0 (rowsFrom ops depth ms 0 es) && distinct 0 (m.map (·.1))
def lowKeys (depth : Nat) : List Oper → Bool
 | []=>true
 | o :: r=>Nat.blt (dstKey depth o.dst) PIN && lowKeys depth r
theorem lowKeys_spec {depth : Nat} : ∀ {l : List Oper},lowKeys depth l = true → ∀ o,o ∈ l → dstKey depth o.dst < PIN
 | [],_,_,h=>by cases h
 | x :: r,h,o,ho=>by
  simp only [lowKeys,Bool.and_eq_true] at h
  rcases List.mem_cons.1 ho with rfl | ho
  ·simpa [Nat.blt_eq] using h.1
  ·exact lowKeys_spec h.2 o ho

def checkS (ops : Array Oper) (depth : Nat) (ms : List Nat) (s : List SV × Mem) (rest : List SFrm) : Bool :=
 below 0 ms && lowKeys depth ops.toList && Nat.beq (maskN (SV.keysL s.1 ++ Mem.named s.2 ++ rest.flatMap fun f=>SV.keysL f.tmps) &&& keysMask depth ops.toList) 0

theorem pairsX_spec {b : Row} : ∀ {l : List Row} {x : Nat},pairsX x l b = true → ∀ k a,l[k]? = some a → pairOk (x + k) a b = true
 | [],_,_,k,a,h=>by simp at h
 | c :: r,x,h,k,a,hk=>by
  simp only [pairsX,Bool.and_eq_true] at h
  cases k with
  | zero=>simp at hk; subst hk; exact h.1
  | succ k=>have := pairsX_spec h.2 k a (by simpa using hk); rwa [show x + 1 + k = x + (k + 1) from by omega] at this

theorem pairsAll_spec : ∀ {l pre : List Row},pairsAll pre l = true → ∀ i x a b,x < i → pre.length ≤ i → (pre ++ l)[i]? = some b → (pre ++ l)[x]? = some a → pairOk x a b = true
 | [],pre,_,i,x,a,b,_,h1,h2,_=>by rw [List.append_nil,List.getElem?_eq_none h1] at h2; cases h2
 | c :: r,pre,h,i,x,a,b,hx,h1,h2,h3=>by
  simp only [pairsAll,Bool.and_eq_true] at h
  by_cases hi : i = pre.length
  ·subst hi
   rw [List.getElem?_append_right (Nat.le_refl _)] at h2
   simp at h2
   subst h2
   rw [List.getElem?_append_left hx] at h3
   have := pairsX_spec h.1 x a h3
   simpa using this
  ·refine pairsAll_spec (l := r) (pre := pre ++ [c]) h.2 i x a b hx (by simp; omega) (by simpa using h2) (by simpa using h3)

theorem forb_bit {j : Nat} {b : Row} : ∀ {l : List Row} {i : Nat} {k : Nat} {a : Row},l[k]? = some a → i + k ≠ j → b.anc.testBit (i + k) = false → (forb j b i l).testBit a.key = true
 | [],_,_,_,h,_,_=>by simp at h
 | c :: r,i,0,a,h,h1,h2=>by
  simp at h
  subst h
  simp only [Nat.add_zero] at h1 h2
  have : Nat.beq i j = false := by
   rw [← Bool.not_eq_true]
   intro e
   exact h1 (Nat.eq_of_beq_eq_true e)
  simp [forb,this,h2,Nat.testBit_or]
 | c :: r,i,k + 1,a,h,h1,h2=>by
  have ih := forb_bit (l := r) (i := i + 1) (k := k) (a := a) (j := j) (b := b) (by simpa using h) (by omega) (by rw [show i + 1 + k = i + (k + 1) from by omega]; exact h2)
  simp only [forb]
  split
  ·exact ih
  ·simp [Nat.testBit_or,ih]

theorem namedAll_spec {rows : List Row} : ∀ {l : List Row} {j : Nat},namedAll rows j l = true → ∀ k b,l[k]? = some b → (b.named &&& forb (j + k) b 0 rows) = 0
 | [],_,_,k,b,h=>by simp at h
 | c :: r,j,h,k,b,hk=>by
  simp only [namedAll,Bool.and_eq_true] at h
  cases k with
  | zero=>simp at hk; subst hk; exact Nat.eq_of_beq_eq_true h.1
  | succ k=>have := namedAll_spec h.2 k b (by simpa using hk); rwa [show j + 1 + k = j + (k + 1) from by omega] at this

theorem rowsFrom_get {ms : List Nat} : ∀ {es : List Eff} {i k : Nat},k < es.length → (rowsFrom ops depth ms i es)[k]? = some (rowOf ops depth ms (i + k) (es.getD k ⟨[],.undef,[],none,none,none,none⟩))
 | [],_,_,h=>by simp at h
 | e :: r,i,0,_=>by simp [rowsFrom]
 | e :: r,i,k + 1,h=>by
  have := rowsFrom_get (ms := ms) (es := r) (i := i + 1) (k := k) (by simpa using h)
  simp only [rowsFrom,List.getElem?_cons_succ,this,List.getD_cons_succ]
  rw [show i + 1 + k = i + (k + 1) from by omega]

theorem keysMask_bit : ∀ {l : List Oper} {i : Nat} {o : Oper},l[i]? = some o → (keysMask depth l).testBit (dstKey depth o.dst) = true
 | [],_,_,h=>by simp at h
 | c :: r,0,o,h=>by simp at h; subst h; simp [keysMask,Nat.testBit_or]
 | c :: r,i + 1,o,h=>by simp [keysMask,Nat.testBit_or,keysMask_bit (l := r) (i := i) (o := o) (by simpa using h)]

theorem distinct_spec : ∀ {l : List Nat} {s : Nat},distinct s l = true → l.Nodup ∧ ∀ k,k ∈ l → s.testBit k = false
 | [],_,_=>by simp
 | k :: r,s,h=>by
  simp only [distinct,Bool.and_eq_true,Bool.not_eq_true'] at h
  obtain ⟨i1,i2⟩ := distinct_spec h.2
  refine ⟨List.nodup_cons.2 ⟨fun hk=>?_,i1⟩,fun j hj=>?_⟩
  ·have := i2 k hk
   simp [Nat.testBit_or] at this
  ·rcases List.mem_cons.1 hj with rfl | hj
   ·exact h.1
   ·have := i2 j hj
    simp only [Nat.testBit_or,Bool.or_eq_false_iff] at this
    exact this.2

theorem below_spec : ∀ {l : List Nat} {i : Nat},below i l = true → ∀ k,k < l.length → l.getD k 0 < 2 ^ (i + k)
 | [],_,_,_,h=>by simp at h
 | a :: r,i,h,0,_=>by
  simp only [below,Bool.and_eq_true] at h
  have := h.1
  simp only [Nat.blt_eq] at this
  simpa using this
 | a :: r,i,h,k + 1,hk=>by
  simp only [below,Bool.and_eq_true] at h
  have := below_spec h.2 k (by simpa using hk)
  rw [show i + 1 + k = i + (k + 1) from by omega] at this
  simpa using this

theorem masks_old : ∀ {r : List Oper} {acc : List Nat} {i : Nat},i < acc.length → (masks r acc).getD i 0 = acc.getD i 0
 | [],_,_,_=>rfl
 | o :: r,acc,i,h=>by
  simp only [masks]
  rw [masks_old (by simp; omega),List.getD_eq_getElem?_getD,List.getElem?_append_left h,← List.getD_eq_getElem?_getD]

theorem maskOf_on {acc : List Nat} {o : Oper} {e : Edge} (he : e ∈ o.after.toList) (hb : Region.binds .any e = true) : (maskOf acc o).testBit e.on = true := by
 unfold maskOf
 generalize o.after.toList = es at he
 induction es with
 | nil=>cases he
 | cons x r ih =>
  simp only [List.foldr_cons]
  rcases List.mem_cons.1 he with rfl | he
  ·simp [hb,Nat.testBit_or]
  ·split
   ·rw [Nat.testBit_or,ih he,Bool.or_true]
   ·exact ih he

theorem masks_at : ∀ {r : List Oper} {acc : List Nat} {k : Nat} {o : Oper},r[k]? = some o → ∃ acc',(masks r acc).getD (acc.length + k) 0 = maskOf acc' o
 | [],_,_,_,h=>by simp at h
 | o :: r,acc,0,o',h=>by
  simp at h
  subst h
  refine ⟨acc,?_⟩
  simp only [masks,Nat.add_zero]
  rw [masks_old (by simp),List.getD_eq_getElem?_getD,List.getElem?_append_right (Nat.le_refl _)]
  simp
 | o :: r,acc,k + 1,o',h=>by
  obtain ⟨acc',h'⟩ := masks_at (r := r) (acc := acc ++ [maskOf acc o]) (k := k) (o := o') (by simpa using h)
  refine ⟨acc',?_⟩
  simp only [masks]
  rw [← h']
  congr 1
  simp; omega

theorem masks_direct {i j : Nat} (hi : i < ops.size) (hj : j ∈ predsOf ops i) : ((masks ops.toList []).getD i 0).testBit j = true := by
 obtain ⟨acc,h⟩ := masks_at (r := ops.toList) (acc := []) (k := i) (o := ops[i]) (by simp [hi])
 simp only [List.length_nil,Nat.zero_add] at h
 rw [h]
 simp only [predsOf,Array.getElem?_eq_getElem hi,List.mem_map,List.mem_filter] at hj
 obtain ⟨e,⟨he,hb⟩,rfl⟩ := hj
 exact maskOf_on he hb

theorem maskD_bit {d : Option Tmp} {k : Nat} (h : d = some k) : (maskD d).testBit k = true := by subst h; simp [maskD]

theorem indep_of_pair {x i : Nat} {ex ei : Eff} {ms : List Nat} (h : pairOk x (rowOf ops depth ms x ex) (rowOf ops depth ms i ei) = true) (hb : (ms.getD i 0).testBit x = false) : Indep ops x i ex ei := by
 simp only [pairOk,rowOf,hb,Bool.false_or,Bool.and_eq_true] at h
 obtain ⟨⟨h1,h2⟩,h3⟩ := h
 have h1 := Nat.eq_of_beq_eq_true h1
 have h2 := Nat.eq_of_beq_eq_true h2
 refine ⟨fun k hk=>?_,fun k hk=>?_,?_⟩
 ·have := mask_apart h1 k (maskD_bit hk)
  simp only [Nat.testBit_or,Bool.or_eq_false_iff,maskN_bit] at this
  refine ⟨by simpa using this.1,fun e=>?_⟩
  rw [maskD_bit e] at this
  exact absurd this.2 (by simp)
 ·have := mask_apart h2 k (maskD_bit hk)
  rw [maskN_bit] at this
  simpa using this
 ·simp only [Bool.or_eq_true] at h3
  have sto : ∀ {e : Eff} {K o n : Nat},(match e.st with | some (K,o,vs)=>some (K,o,vs.length) | none=>none) = some (K,o,n) → ∃ vs,e.st = some (K,o,vs) ∧ n = vs.length := by
   intro e K o n h
   split at h
   ·rename_i K' o' vs hs
    simp only [Option.some.injEq,Prod.mk.injEq] at h
    obtain ⟨rfl,rfl,rfl⟩ := h
    exact ⟨vs,hs,rfl⟩
   ·cases h
  have pos : ∀ {a : Option (Nat × Nat × Nat)} {K o n : Nat},posB a = true → a = some (K,o,n) → 0 < n := by
   intro a K o n h ha
   subst ha
   simpa [posB] using h
  rcases h3 with (((h3 | h3) | h3) | h3) | h3
  ·left
   rw [Bool.and_eq_true] at h3
   obtain ⟨h3,h4⟩ := h3
   have h3 := Nat.eq_of_beq_eq_true h3
   have h4 := Nat.eq_of_beq_eq_true h4
   refine ⟨fun k hk=>?_,fun k hk=>?_⟩
   ·have := mask_apart h3 k (by rw [maskN_bit]; simpa using hk)
    simp only [Nat.testBit_or,Bool.or_eq_false_iff,maskN_bit] at this
    exact ⟨by simpa using this.1,by simpa using this.2⟩
   ·have := mask_apart h4 k (by rw [maskN_bit]; simpa using hk)
    rw [maskN_bit] at this
    simpa using this
  ·right; left
   rw [Bool.and_eq_true,Bool.not_eq_true'] at h3
   obtain ⟨h3,h4⟩ := h3
   have h3 := Nat.eq_of_beq_eq_true h3
   cases hx : ex.ins with
   | none=>rw [hx] at h4; simp at h4
   | some x =>
    obtain ⟨K,x⟩ := x
    cases hy : ei.ins with
    | none=>rw [hx,hy] at h3; simp at h3
    | some y =>
     obtain ⟨K',y⟩ := y
     rw [hx,hy] at h3
     simp at h3
     subst h3
     exact ⟨_,_,_,rfl,rfl⟩
  ·right; right; left
   rw [Bool.and_eq_true] at h3
   obtain ⟨K,o,n,o',n',h5,h6,h7⟩ := apartB_spec h3.1
   obtain ⟨vs,h8,rfl⟩ := sto h6
   exact ⟨K,o,n,o',vs,h5,h8,h7,pos h3.2 h5⟩
  ·right; right; right; left
   rw [Bool.and_eq_true] at h3
   obtain ⟨K,o,n,o',n',h5,h6,h7⟩ := apartB_spec h3.1
   obtain ⟨vs,h8,rfl⟩ := sto h5
   exact ⟨K,o,vs,o',n',h8,h6,h7,pos h3.2 h6⟩
  ·right; right; right; right
   obtain ⟨K,o,n,o',n',h5,h6,h7⟩ := apartB_spec h3
   obtain ⟨vs,h8,rfl⟩ := sto h5
   obtain ⟨vs',h9,rfl⟩ := sto h6
   exact ⟨K,o,vs,o',vs',h8,h9,h7⟩

theorem chk_of {s0 s : List SV × Mem} {hs : Nat → Nat → D} {dec : List (Nat × Bool)} {es : List Eff} {Fin : List SV × Mem → Prop}
  (hc : canonR P cs ops depth dec hs (List.range ops.size) s0 = .done s es) (hk : checkR ops depth (masks ops.toList []) es s.2 = true)
  (hp : ∀ e,e ∈ es → ∀ p,p ∈ e.ps → p) (hfin : Fin s) : Chk P cs ops depth s0 hs Fin := by
 rw [List.range_eq_range'] at hc
 let r : Nat → Eff := fun k=>es.getD k ⟨[],.undef,[],none,none,none,none⟩
 obtain ⟨h1,h2,h3⟩ := canonR_spec hc r (fun k _=>by simp [r])
 rw [← List.range_eq_range'] at h2 h3
 simp only [checkR,Bool.and_eq_true] at hk
 obtain ⟨⟨k1,k2⟩,k3⟩ := hk
 have row : ∀ i,i < ops.size → (rowsFrom ops depth (masks ops.toList []) 0 es)[i]? = some (rowOf ops depth (masks ops.toList []) i (r i)) := fun i hi=>by
  have := rowsFrom_get (ops := ops) (depth := depth) (ms := masks ops.toList []) (es := es) (i := 0) (k := i) (by omega)
  simpa [r] using this
 refine ⟨dec,r,h2,fun i hi p hpp=>?_,fun x i hxi hi hb=>?_,fun j i hj hi hij hb=>?_,?_,by rw [h3]; exact hfin⟩
 ·have hm : r i ∈ es := by
   simp only [r]
   rw [List.getD_eq_getElem?_getD,List.getElem?_eq_getElem (by omega)]
   simp
  exact hp _ hm p hpp
 ·exact indep_of_pair (depth := depth) (pairsAll_spec (pre := []) k1 i x _ _ hxi (Nat.zero_le _) (by simpa using row i hi) (by simpa using row x (by omega))) hb
 ·have h5 := namedAll_spec k2 j _ (row j hj)
  rw [Nat.zero_add] at h5
  have h6 := forb_bit (j := j) (b := rowOf ops depth (masks ops.toList []) j (r j)) (i := 0) (row i hi) (by omega) (by simpa [rowOf] using hb)
  intro hmem
  have h7 := mask_apart h5 (dstKey depth (dstOf ops i)) (by simp only [rowOf,maskN_bit]; simpa using hmem)
  simp only [rowOf] at h6 h7
  rw [h6] at h7
  cases h7
 ·rw [h3]
  have := (distinct_spec k3).1
  rw [List.nodup_iff_pairwise_ne,List.pairwise_map] at this
  exact this

theorem checkS_spec {s : List SV × Mem} {rest : List SFrm} (h : checkS ops depth (masks ops.toList []) s rest = true) :
  (∀ i,i < ops.size → ∀ j,j ∈ predsOf ops i → j < i) ∧
  (∀ i,i < ops.size → dstKey depth (dstOf ops i) ∉ SV.keysL s.1 ∧ dstKey depth (dstOf ops i) ∉ Mem.named s.2 ∧ (∀ f,f ∈ rest → dstKey depth (dstOf ops i) ∉ SV.keysL f.tmps) ∧ dstKey depth (dstOf ops i) < PIN) := by
 simp only [checkS,Bool.and_eq_true] at h
 obtain ⟨⟨h1,h0⟩,h2⟩ := h
 refine ⟨fun i hi j hj=>?_,fun i hi=>?_⟩
 ·have hb := below_spec h1 i (by rw [masks_length]; simpa using hi)
  rw [Nat.zero_add] at hb
  have hbit : ((masks ops.toList []).getD i 0).testBit j = true := masks_direct hi hj
  rcases Nat.lt_or_ge j i with hlt | hge
  ·exact hlt
  ·have := Nat.testBit_lt_two_pow (x := (masks ops.toList []).getD i 0) (i := j) (Nat.lt_of_lt_of_le hb (Nat.pow_le_pow_right (by omega) hge))
   rw [hbit] at this
   cases this
 ·have hm := Nat.eq_of_beq_eq_true h2
  have ho : ops.toList[i]? = some ops[i] := by simp [hi]
  have hk := keysMask_bit (depth := depth) ho
  have hd : dstOf ops i = ops[i].dst := by simp [dstOf,hi]
  rw [hd]
  have hno : dstKey depth ops[i].dst ∉ SV.keysL s.1 ++ Mem.named s.2 ++ rest.flatMap fun f=>SV.keysL f.tmps := by
   intro hmem
   have := mask_apart hm _ (by rw [maskN_bit]; simpa using hmem)
   rw [hk] at this
   cases this
  simp only [List.mem_append,List.mem_flatMap,not_or,not_exists,not_and] at hno
  exact ⟨hno.1.1,hno.1.2,fun f hf=>hno.2 f hf,lowKeys_spec h0 _ (by simp)⟩
end
end Sx
end
noncomputable section
namespace Sx
open Go RowKit

section
variable {P : Program} {ops : Array Oper} {Q : Exit → Act → World → Prop}
def forcedR (ops : Array Oper) (n : Nat) : Bool :=
  decide (n ≤ ops.size) &&
  (List.range ops.size).all (fun i=>(predsOf ops i).all (fun j=>decide (j < i)) &&
    (match ops[i]? with
     | some o=>match o.guard with
       | some (g,_)=>decide (g < i)
       | none=>true
     | none=>true)) &&
  (List.range ops.size).all fun i=>decide (i < n) || (List.range i).all fun j=>((masks ops.toList []).getD i 0).testBit j

theorem forcedR_spec {n : Nat} (h : forcedR ops n = true) : n ≤ ops.size ∧ (∀ i,i < ops.size → ∀ j,j ∈ predsOf ops i → j < i) ∧
  (∀ (i : Nat) (o : Oper) (g : Nat) (b : Bool),ops[i]? = some o → o.guard = some (g,b) → g < i) ∧
  ∀ i,i < ops.size → n ≤ i → ∀ j,j < i → ((masks ops.toList []).getD i 0).testBit j = true := by
 unfold forcedR at h
 simp only [Bool.and_eq_true,decide_eq_true_eq,List.all_eq_true,List.mem_range,Bool.or_eq_true] at h
 obtain ⟨⟨h1,h2⟩,h3⟩ := h
 refine ⟨h1,fun i hi j hj=>(h2 i hi).1 j hj,fun i o g b ho hg=>?_,fun i hi hn j hj=>?_⟩
 ·have hi : i < ops.size := (Array.getElem?_eq_some_iff.1 ho).1
  have := (h2 i hi).2
  rw [ho] at this
  simp only [hg,decide_eq_true_eq] at this
  exact this
 ·rcases h3 i hi with h | h
  ·omega
  ·exact h j hj
theorem ready_iff {l : List Nat} {listed : Array Bool} (hsz : listed.size = ops.size) (hl : ∀ j,j < ops.size → listed[j]? = some (l.contains j))
  (hlt : ∀ i,i < ops.size → ∀ j,j ∈ predsOf ops i → j < i) {i : Nat} : i ∈ Region.ready .any ops listed ↔ i < ops.size ∧ i ∉ l ∧ ∀ j,j ∈ predsOf ops i → j ∈ l := by
 rw [mem_ready]
 constructor
 ·rintro ⟨h0,o,ho,hall⟩
  have hi' : i < ops.size := (Array.getElem?_eq_some_iff.1 ho).1
  refine ⟨hi',?_,fun j hj=>?_⟩
  ·have := hl i hi'
   simp only [Array.getD_eq_getD_getElem?,this,Option.getD_some] at h0
   simpa using h0
  ·have hjlt := hlt i hi' j hj
   simp only [predsOf,ho,List.mem_map,List.mem_filter] at hj
   obtain ⟨e,⟨he,hbe⟩,rfl⟩ := hj
   have h1 := hall e (by simpa using he) hbe
   simp only [Array.getD_eq_getD_getElem?,hl _ (by omega : e.on < ops.size),Option.getD_some] at h1
   simpa using h1
 ·rintro ⟨hi,hil,hp⟩
  refine ⟨by simp [Array.getD_eq_getD_getElem?,hl i hi,hil],ops[i],by simp [hi],fun e he hb2=>?_⟩
  have hpe : e.on ∈ predsOf ops i := by
   simp only [predsOf,Array.getElem?_eq_getElem hi,List.mem_map,List.mem_filter]
   exact ⟨e,⟨by simpa using he,hb2⟩,rfl⟩
  have hlt' := hlt i hi _ hpe
  simp [Array.getD_eq_getD_getElem?,hl e.on (by omega),hp _ hpe]

theorem listed_step {l : List Nat} {listed : Array Bool} (hsz : listed.size = ops.size) (hl : ∀ j,j < ops.size → listed[j]? = some (l.contains j)) {i : Nat} (hi : i < ops.size) :
  (listed.setIfInBounds i true).size = ops.size ∧ ∀ j,j < ops.size → (listed.setIfInBounds i true)[j]? = some ((l ++ [i]).contains j) := by
 refine ⟨by simpa using hsz,fun j hj=>?_⟩
 by_cases hji : j = i
 ·subst hji; simp [hsz,hj]
 ·rw [Array.getElem?_setIfInBounds_ne (Ne.symm hji),hl j hj]
  simp [hji]
theorem wpAny_tail (hlt : ∀ i,i < ops.size → ∀ j,j ∈ predsOf ops i → j < i) {n : Nat}
  (hm : ∀ i,i < ops.size → n ≤ i → ∀ j,j < i → ((masks ops.toList []).getD i 0).testBit j = true) :
  ∀ (fuel m : Nat) (l : List Nat) (listed : Array Bool) (a : Act) (w : World),m + fuel = ops.size → n ≤ m → Begun ops l → (∀ j,j ∈ l ↔ j < m) → listed.size = ops.size →
   (∀ j,j < ops.size → listed[j]? = some (l.contains j)) → wpOps P ops Q (List.range' m fuel) a w → wpAny P .any ops Q fuel listed a w := by
 intro fuel
 induction fuel with
 | zero =>
  intro m l listed a w hmf hn hb hmem hsz hl h
  refine ⟨?_,h⟩
  rw [List.eq_nil_iff_forall_not_mem]
  intro i hi
  obtain ⟨h1,h2,_⟩ := (ready_iff hsz hl hlt).1 hi
  exact h2 ((hmem i).2 (by omega))
 | succ fuel ih =>
  intro m l listed a w hmf hn hb hmem hsz hl h
  have hmlt : m < ops.size := by omega
  refine ⟨fun hnil=>?_,fun i hi=>?_⟩
  ·have : m ∈ Region.ready .any ops listed := (ready_iff hsz hl hlt).2 ⟨hmlt,fun hh=>by have := (hmem m).1 hh; omega,fun j hj=>(hmem j).2 (hlt m hmlt j hj)⟩
   rw [hnil] at this; cases this
  ·obtain ⟨h1,h2,h3⟩ := (ready_iff hsz hl hlt).1 hi
   have him : i = m := by
    have hge : ¬ i < m := fun hh=>h2 ((hmem i).2 hh)
    rcases Nat.lt_or_ge m i with h4 | h4
    ·have := masks_table i (by rw [masks_length]; simpa using h1) l hb h3 m (hm i h1 (by omega) m h4)
     have := (hmem m).1 this
     omega
    ·omega
   subst him
   rw [List.range'_succ,wpOps_cons] at h
   obtain ⟨s1,s2⟩ := listed_step hsz hl h1
   refine wpOp_mono (fun a' w' h'=>ih (i + 1) (l ++ [i]) _ a' w' (by omega) (by omega) (.snoc hb h2 h1 h3) (fun j=>?_) s1 s2 h') h
   rw [List.mem_append,hmem j,List.mem_singleton]
   omega

theorem extract_get {n : Nat} (hn : n ≤ ops.size) {i : Nat} (hi : i < n) : (ops.extract 0 n)[i]? = ops[i]? := by
 rw [Array.getElem?_extract]
 have : i < min n ops.size - 0 := by omega
 simp; omega

theorem preds_extract {n : Nat} (hn : n ≤ ops.size) {i : Nat} (hi : i < n) : predsOf (ops.extract 0 n) i = predsOf ops i := by
 unfold predsOf; rw [extract_get hn hi]

theorem wpOp_extract {n : Nat} (hn : n ≤ ops.size) {i : Nat} (hi : i < n) (hg : ∀ (i : Nat) (o : Oper) (g : Nat) (b : Bool),ops[i]? = some o → o.guard = some (g,b) → g < i) {Q' : Exit → Act → World → Prop}
  (hQ : ∀ e a w,Q' e a w → e = .normal) {K K' : Act → World → Prop} (hK : ∀ a w,K' a w → K a w) {a : Act} {w : World} (h : wpOp P (ops.extract 0 n) Q' i K' a w) : wpOp P ops Q i K a w := by
 unfold wpOp at h ⊢
 rw [extract_get hn hi] at h
 cases ho : ops[i]? with
 | none=>rw [ho] at h; exact hK _ _ h
 | some o =>
  rw [ho] at h
  simp only at h ⊢
  have hy : Region.wanted o (yielded (ops.extract 0 n) a.tmps) = Region.wanted o (yielded ops a.tmps) := by
   unfold Region.wanted
   cases hgo : o.guard with
   | none=>rfl
   | some gb =>
    obtain ⟨g,b⟩ := gb
    have := hg i o g b ho hgo
    simp only
    unfold yielded
    rw [extract_get hn (by omega)]
  rw [hy] at h
  split at h
  ·rename_i hw
   simp only [hw,if_true]
   left
   rcases h with h | ⟨_,a2,w2,h2⟩
   ·unfold Oper.wp at h ⊢
    generalize (execOp a.eval o).run P w = r at *
    cases r with
    | ok n w' =>
     cases n <;> simp only [Oper.upon] at h ⊢ <;>
      first
       | exact hK _ _ h
       | exact Calls.mono h (fun e w'' he=>by cases e <;> first | exact hK _ _ he | exact absurd (hQ _ _ _ he) (by simp) | (obtain ⟨a2,w2,h2⟩ := he; exact absurd (hQ _ _ _ h2) (by simp)))
       | exact Rows.mono h (fun _ _ he=>hK _ _ he)
       | exact absurd (hQ _ _ _ h) (by simp)
    | halt x w'=>cases x <;> simp only [Oper.upon] at h ⊢ <;> first | exact h | exact absurd (hQ _ _ _ h) (by simp)
   ·exact absurd (hQ _ _ _ h2) (by simp)
  ·rename_i hw
   simp only [hw]
   exact hK _ _ h

theorem len_ge : ∀ (n : Nat) (l : List Nat),(∀ i,i < n → i ∈ l) → n ≤ l.length
 | 0,_,_=>Nat.zero_le _
 | n + 1,l,h=>by
  have h1 := len_ge n (l.erase n) (fun i hi=>(List.mem_erase_of_ne (by omega)).2 (h i (by omega)))
  rw [List.length_erase_of_mem (h n (by omega))] at h1
  have := List.length_pos_of_mem (h n (by omega))
  omega
theorem wpAny_head {n : Nat} (hf : forcedR ops n = true) {Q' : Exit → Act → World → Prop} (hQ : ∀ e a w,Q' e a w → e = .normal)
  (hfin : ∀ a w,Q' .normal a w → wpOps P ops Q (List.range' n (ops.size - n)) a w) :
  ∀ (fuel : Nat) (l : List Nat) (listed' listed : Array Bool) (a : Act) (w : World),fuel + l.length = n → Begun ops l → (∀ j,j ∈ l → j < n) →
   listed'.size = n → (∀ j,j < n → listed'[j]? = some (l.contains j)) → listed.size = ops.size → (∀ j,j < ops.size → listed[j]? = some (l.contains j)) →
   wpAny P .any (ops.extract 0 n) Q' fuel listed' a w → wpAny P .any ops Q (fuel + (ops.size - n)) listed a w := by
 obtain ⟨hn,hlt,hg,hm⟩ := forcedR_spec hf
 have hsz0 : (ops.extract 0 n).size = n := by simp; omega
 have hlt' : ∀ i,i < (ops.extract 0 n).size → ∀ j,j ∈ predsOf (ops.extract 0 n) i → j < i := by
  intro i hi j hj
  rw [hsz0] at hi
  rw [preds_extract hn hi] at hj
  exact hlt i (by omega) j hj
 intro fuel
 induction fuel with
 | zero =>
  intro l listed' listed a w hlen hb hln hs' hl' hsz hl h
  have hnod := hb.nodup.1
  have hfull : ∀ i,i < n → i ∈ l := full_of_len hnod hln (by omega)
  rw [Nat.zero_add]
  exact wpAny_tail hlt hm (ops.size - n) n l listed a w (by omega) (Nat.le_refl _) hb (fun j=>⟨hln j,hfull j⟩) hsz hl (hfin a w h.2)
 | succ fuel ih =>
  intro l listed' listed a w hlen hb hln hs' hl' hsz hl h
  rw [Nat.add_right_comm]
  have hnod := hb.nodup.1
  have hnotfull : ∃ i,i < n ∧ i ∉ l := by
   refine Classical.byContradiction fun hne=>?_
   have hall : ∀ i,i < n → i ∈ l := fun i hi=>Classical.byContradiction fun h2=>hne ⟨i,hi,h2⟩
   have := len_ge n l hall
   omega
  refine ⟨fun hnil=>?_,fun i hi=>?_⟩
  ·exfalso
   obtain ⟨i0,hi0,hil0⟩ := hnotfull
   have key : ∀ i,i < n → i ∈ l := by
    intro i
    induction i using Nat.strongRecOn with
    | _ i ihi =>
     intro hin
     refine Classical.byContradiction fun hil=>?_
     have : i ∈ Region.ready .any ops listed := (ready_iff hsz hl hlt).2 ⟨by omega,hil,fun j hj=>ihi j (hlt i (by omega) j hj) (by have := hlt i (by omega) j hj; omega)⟩
     rw [hnil] at this; cases this
   exact hil0 (key i0 hi0)
  ·obtain ⟨h1,h2,h3⟩ := (ready_iff hsz hl hlt).1 hi
   have hin : i < n := by
    refine Classical.byContradiction fun hge=>?_
    obtain ⟨i0,hi0,hil0⟩ := hnotfull
    exact hil0 (masks_table i (by rw [masks_length]; simpa using h1) l hb h3 i0 (hm i h1 (by omega) i0 (by omega)))
   have hr : i ∈ Region.ready .any (ops.extract 0 n) listed' :=
    (ready_iff (by rw [hs',hsz0]) (fun j hj=>hl' j (by omega)) hlt').2 ⟨by omega,h2,fun j hj=>by rw [preds_extract hn hin] at hj; exact h3 j hj⟩
   obtain ⟨s1,s2⟩ := listed_step hsz hl h1
   obtain ⟨t1,t2⟩ := listed_step (ops := ops.extract 0 n) (by rw [hs',hsz0]) (fun j hj=>hl' j (by omega)) (by omega : i < (ops.extract 0 n).size)
   refine wpOp_extract hn hin hg hQ (fun a' w' h'=>ih (l ++ [i]) _ _ a' w' (by simp; omega) (.snoc hb h2 h1 h3) (fun j hj=>?_) (by rw [t1,hsz0]) (fun j hj=>t2 j (by omega)) s1 s2 h') (h.2 i hr)
   rcases List.mem_append.1 hj with hj | hj
   ·exact hln j hj
   ·rw [List.mem_singleton.1 hj]; exact hin

theorem wpOp_move {ops' : Array Oper} {i i' : Nat} (he : ops'[i']? = ops[i]?) (hg : ∀ (o : Oper) (g : Nat) (b : Bool),ops[i]? = some o → o.guard = some (g,b) → ops'[g]? = ops[g]?) {Q' : Exit → Act → World → Prop}
  (hQ : ∀ e a w,Q' e a w → e = .normal) {K K' : Act → World → Prop} (hK : ∀ a w,K' a w → K a w) {a : Act} {w : World} (h : wpOp P ops' Q' i' K' a w) : wpOp P ops Q i K a w := by
 unfold wpOp at h ⊢
 rw [he] at h
 cases ho : ops[i]? with
 | none=>rw [ho] at h; exact hK _ _ h
 | some o =>
  rw [ho] at h
  simp only at h ⊢
  have hy : Region.wanted o (yielded ops' a.tmps) = Region.wanted o (yielded ops a.tmps) := by
   unfold Region.wanted
   cases hgo : o.guard with
   | none=>rfl
   | some gb =>
    obtain ⟨g,b⟩ := gb
    simp only
    unfold yielded
    rw [hg o g b ho hgo]
  rw [hy] at h
  split at h
  ·rename_i hw
   simp only [hw,if_true]
   left
   rcases h with h | ⟨_,a2,w2,h2⟩
   ·unfold Oper.wp at h ⊢
    generalize (execOp a.eval o).run P w = r at *
    cases r with
    | ok n w' =>
     cases n <;> simp only [Oper.upon] at h ⊢ <;>
      first
       | exact hK _ _ h
       | exact Calls.mono h (fun e w'' he=>by cases e <;> first | exact hK _ _ he | exact absurd (hQ _ _ _ he) (by simp) | (obtain ⟨a2,w2,h2⟩ := he; exact absurd (hQ _ _ _ h2) (by simp)))
       | exact Rows.mono h (fun _ _ he=>hK _ _ he)
       | exact absurd (hQ _ _ _ h) (by simp)
    | halt x w'=>cases x <;> simp only [Oper.upon] at h ⊢ <;> first | exact h | exact absurd (hQ _ _ _ h) (by simp)
   ·exact absurd (hQ _ _ _ h2) (by simp)
  ·rename_i hw
   simp only [hw]
   exact hK _ _ h
def valOp : Op → Bool
 | .move _=>true
 | .assign _=>true
 | .load ..=>true
 | .binOp ..=>true
 | .unOp ..=>true
 | .convert ..=>true
 | .extract ..=>true
 | .fieldAddr ..=>true
 | .indexAddr ..=>true
 | .build ..=>true
 | _=>false

theorem valOp_value {ev : Operand → Value} {o : Oper} {w w' : World} {nx : Next} (h : valOp o.op = true) (hr : (execOp ev o).run P w = .ok nx w') : ∃ v,nx = .value v := by
 have key : ∀ s : Sem Value,(do let v ← s; pure (.value v) : Sem Next).run P w = .ok nx w' → ∃ v,nx = .value v := by
  intro s hs
  rw [Sem.run_bind] at hs
  cases hq : s.run P w with
  | ok v w2=>rw [hq] at hs; simp only [Result.andThen_ok,Sem.run_pure,Result.ok.injEq] at hs; exact ⟨v,hs.1.symm⟩
  | halt x w2=>rw [hq] at hs; simp [Result.andThen] at hs
 obtain ⟨dst,op,type,pos,after,guard⟩ := o
 cases op <;> simp only [valOp,reduceCtorEq,Bool.false_eq_true] at h <;> simp only [execOp] at hr
 all_goals first
  | exact key _ hr
  | (simp only [Sem.run_pure,Result.ok.injEq] at hr; exact ⟨_,hr.1.symm⟩)

theorem wpOp_and {i : Nat} (hv : ∀ o,ops[i]? = some o → valOp o.op = true) {KA KB : Act → World → Prop} {a : Act} {w : World} (hA : wpOp P ops Q i KA a w) (hB : wpOp P ops Q i KB a w) :
  wpOp P ops Q i (fun a w=>KA a w ∧ KB a w) a w := by
 unfold wpOp at hA hB ⊢
 cases ho : ops[i]? with
 | none=>rw [ho] at hA hB; exact ⟨hA,hB⟩
 | some o =>
  rw [ho] at hA hB
  simp only at hA hB ⊢
  split at hA
  ·rename_i hw
   simp only [hw,if_true] at hB ⊢
   rcases hA with hA | hA
   ·rcases hB with hB | hB
    ·left
     unfold Oper.wp at hA hB ⊢
     cases hr : (execOp a.eval o).run P w with
     | ok nx w' =>
      obtain ⟨v,rfl⟩ := valOp_value (hv o ho) hr
      rw [hr] at hA hB
      simp only [Oper.upon] at hA hB ⊢
      exact ⟨hA,hB⟩
     | halt x w' =>
      rw [hr] at hA
      cases x <;> simp only [Oper.upon] at hA ⊢ <;> exact hA
    ·exact .inr hB
   ·exact .inr hA
  ·rename_i hw
   simp only [hw] at hB ⊢
   exact ⟨hA,hB⟩
def floatR (ops : Array Oper) (n : Nat) : Bool :=
  ((ops.extract 0 n).toList.all fun o=>valOp o.op) &&
  decide (n + 1 < ops.size) && (predsOf ops (n + 1)).isEmpty &&
  (match ops[n + 1]? with
   | some o=>o.guard.isNone
   | none=>false) &&
  (List.range ops.size).all (fun i=>(predsOf ops i).all (fun j=>decide (j < i)) &&
    (match ops[i]? with
     | some o=>match o.guard with
       | some (g,_)=>decide (g < i)
       | none=>true
     | none=>true)) &&
  (List.range ops.size).all fun i=>decide (i < n) || decide (i = n + 1) || (List.range i).all fun j=>((masks ops.toList []).getD i 0).testBit j

theorem floatR_val {n : Nat} (h : floatR ops n = true) : ∀ i,i < n → ∀ o,ops[i]? = some o → valOp o.op = true := by
 unfold floatR at h
 simp only [Bool.and_eq_true,decide_eq_true_eq,List.all_eq_true] at h
 intro i hi o ho
 refine h.1.1.1.1.1 o ?_
 rw [Array.mem_toList_iff]
 exact Array.mem_of_getElem? (i := i) (by rw [extract_get (by omega) hi]; exact ho)

theorem floatR_spec {n : Nat} (h : floatR ops n = true) : n + 1 < ops.size ∧ predsOf ops (n + 1) = [] ∧ (∃ o,ops[n + 1]? = some o ∧ o.guard = none) ∧ (∀ i,i < ops.size → ∀ j,j ∈ predsOf ops i → j < i) ∧
  (∀ (i : Nat) (o : Oper) (g : Nat) (b : Bool),ops[i]? = some o → o.guard = some (g,b) → g < i) ∧
  ∀ i,i < ops.size → n ≤ i → i ≠ n + 1 → ∀ j,j < i → ((masks ops.toList []).getD i 0).testBit j = true := by
 unfold floatR at h
 simp only [Bool.and_eq_true,decide_eq_true_eq,List.all_eq_true,List.mem_range,Bool.or_eq_true,List.isEmpty_iff] at h
 obtain ⟨⟨⟨⟨⟨_,h1⟩,h5⟩,h6⟩,h2⟩,h3⟩ := h
 refine ⟨h1,h5,?_,fun i hi j hj=>?_,fun i o g b ho hg=>?_,fun i hi hn hne j hj=>?_⟩
 ·split at h6
  ·rename_i o ho; exact ⟨o,ho,by simpa using h6⟩
  ·cases h6
 ·exact (h2 i hi).1 j hj
 ·have hi : i < ops.size := (Array.getElem?_eq_some_iff.1 ho).1
  have := (h2 i hi).2
  rw [ho] at this
  simp only [hg,decide_eq_true_eq] at this
  exact this
 ·rcases h3 i hi with (h | h) | h
  ·omega
  ·exact absurd h hne
  ·exact h j hj
def opsF (ops : Array Oper) (n : Nat) : Array Oper := ops.extract 0 n ++ ops.extract (n + 1) (n + 2)

theorem opsF_size {n : Nat} (hn : n + 1 < ops.size) : (opsF ops n).size = n + 1 := by simp [opsF]; omega
theorem opsF_lt {n i : Nat} (hn : n + 1 < ops.size) (hi : i < n) : (opsF ops n)[i]? = ops[i]? := by
 unfold opsF
 rw [Array.getElem?_append_left (by simp; omega)]
 exact extract_get (by omega) hi
theorem opsF_n {n : Nat} (hn : n + 1 < ops.size) : (opsF ops n)[n]? = ops[n + 1]? := by
 unfold opsF
 have hs : (ops.extract 0 n).size = n := by simp; omega
 rw [Array.getElem?_append_right (by omega),hs,Nat.sub_self,Array.getElem?_extract]
 simp; omega

theorem predsF_lt {n i : Nat} (hn : n + 1 < ops.size) (hi : i < n) : predsOf (opsF ops n) i = predsOf ops i := by unfold predsOf; rw [opsF_lt hn hi]
theorem predsF_n {n : Nat} (hn : n + 1 < ops.size) (h0 : predsOf ops (n + 1) = []) : predsOf (opsF ops n) n = [] := by
 unfold predsOf at h0 ⊢; rw [opsF_n hn]; exact h0

section
variable {n : Nat} {QA QB : Exit → Act → World → Prop}
theorem wpAny_floatA (hf : floatR ops n = true) (hQA : ∀ e a w,QA e a w → e = .normal) (hA : ∀ a w,QA .normal a w → wpOps P ops Q (n :: List.range' (n + 2) (ops.size - (n + 2))) a w) :
  ∀ (fuel : Nat) (l : List Nat) (listedA listed : Array Bool) (a : Act) (w : World),fuel + l.length = n + 1 → Begun ops l → (∀ j,j ∈ l → j < n ∨ j = n + 1) → n + 1 ∈ l →
   listedA.size = n + 1 → (∀ j,j < n → listedA[j]? = some (l.contains j)) → listedA[n]? = some true → listed.size = ops.size → (∀ j,j < ops.size → listed[j]? = some (l.contains j)) →
   wpAny P .any (opsF ops n) QA fuel listedA a w → wpAny P .any ops Q (fuel + (ops.size - (n + 1))) listed a w := by
 obtain ⟨hn,hp0,_,hlt,hg,hm⟩ := floatR_spec hf
 have hszF := opsF_size (ops := ops) hn
 have hltF : ∀ i,i < (opsF ops n).size → ∀ j,j ∈ predsOf (opsF ops n) i → j < i := by
  intro i hi j hj
  rw [hszF] at hi
  rcases Nat.lt_or_ge i n with h | h
  ·rw [predsF_lt hn h] at hj; exact hlt i (by omega) j hj
  ·have : i = n := by omega
   subst this; rw [predsF_n hn hp0] at hj; cases hj
 intro fuel
 induction fuel with
 | zero =>
  intro l listedA listed a w hlen hb hln hfl hs' hl' hln' hsz hl h
  have hfull : ∀ i,i < n → i ∈ l := by
   intro i hi
   have h1 : ∀ q,q ∈ l.map (fun x=>if x = n + 1 then n else x) → q < n + 1 := by
    intro q hq
    obtain ⟨x,hx,rfl⟩ := List.mem_map.1 hq
    rcases hln x hx with h | h <;> split <;> omega
   have h2 : (l.map (fun x=>if x = n + 1 then n else x)).Nodup := by
    rw [List.nodup_iff_pairwise_ne,List.pairwise_map]
    refine hb.nodup.1.imp_of_mem ?_
    intro x y hx hy hne e
    apply hne
    by_cases hx1 : x = n + 1 <;> by_cases hy1 : y = n + 1
    ·omega
    ·rw [if_pos hx1,if_neg hy1] at e; rcases hln y hy with h | h <;> omega
    ·rw [if_neg hx1,if_pos hy1] at e; rcases hln x hx with h | h <;> omega
    ·rw [if_neg hx1,if_neg hy1] at e; exact e
   have := full_of_len h2 h1 (by rw [List.length_map]; omega) i (by omega)
   obtain ⟨x,hx,hxe⟩ := List.mem_map.1 this
   split at hxe
   ·omega
   ·rw [← hxe]; exact hx
  rw [Nat.zero_add,show ops.size - (n + 1) = (ops.size - (n + 2)) + 1 by omega]
  have hnl : n ∉ l := fun hh=>by rcases hln n hh with h | h <;> omega
  refine ⟨fun hnil=>?_,fun i hi=>?_⟩
  ·have : n ∈ Region.ready .any ops listed := (ready_iff hsz hl hlt).2 ⟨by omega,hnl,fun j hj=>hfull j (hlt n (by omega) j hj)⟩
   rw [hnil] at this; cases this
  ·obtain ⟨h1,h2,h3⟩ := (ready_iff hsz hl hlt).1 hi
   have him : i = n := by
    rcases Nat.lt_trichotomy i n with h4 | h4 | h4
    ·exact absurd (hfull i h4) h2
    ·exact h4
    ·by_cases h5 : i = n + 1
     ·subst h5; exact absurd hfl h2
     ·exact absurd (masks_table i (by rw [masks_length]; simpa using h1) l hb h3 n (hm i h1 (by omega) h5 n h4)) hnl
   subst him
   have hw := hA a w h.2
   rw [wpOps_cons] at hw
   obtain ⟨s1,s2⟩ := listed_step hsz hl h1
   refine wpOp_mono (fun a' w' h'=>wpAny_tail hlt (n := i + 2) (fun q hq hge j hj=>hm q hq (by omega) (by omega) j hj) (ops.size - (i + 2)) (i + 2) (l ++ [i]) _ a' w' (by omega) (Nat.le_refl _) (.snoc hb h2 h1 h3) (fun j=>?_) s1 s2 h') hw
   rw [List.mem_append,List.mem_singleton]
   constructor
   ·rintro (h | h)
    ·rcases hln j h with h | h <;> omega
    ·omega
   ·intro h
    rcases Nat.lt_trichotomy j i with h' | h' | h'
    ·exact .inl (hfull j h')
    ·exact .inr h'
    ·have : j = i + 1 := by omega
     subst this; exact .inl hfl
 | succ fuel ih =>
  intro l listedA listed a w hlen hb hln hfl hs' hl' hln' hsz hl h
  rw [Nat.add_right_comm]
  have hnot : ∃ i,i < n ∧ i ∉ l := by
   refine Classical.byContradiction fun hne=>?_
   have hall : ∀ i,i < n → i ∈ l.erase (n + 1) := fun i hi=>(List.mem_erase_of_ne (by omega)).2 (Classical.byContradiction fun h2=>hne ⟨i,hi,h2⟩)
   have := len_ge n _ hall
   rw [List.length_erase_of_mem hfl] at this
   have := List.length_pos_of_mem hfl
   omega
  have hnl : n ∉ l := fun hh=>by rcases hln n hh with h | h <;> omega
  refine ⟨fun hnil=>?_,fun i hi=>?_⟩
  ·exfalso
   obtain ⟨i0,hi0,hil0⟩ := hnot
   have key : ∀ i,i < n → i ∈ l := by
    intro i
    induction i using Nat.strongRecOn with
    | _ i ihi =>
     intro hin
     refine Classical.byContradiction fun hil=>?_
     have : i ∈ Region.ready .any ops listed := (ready_iff hsz hl hlt).2 ⟨by omega,hil,fun j hj=>ihi j (hlt i (by omega) j hj) (by have := hlt i (by omega) j hj; omega)⟩
     rw [hnil] at this; cases this
   exact hil0 (key i0 hi0)
  ·obtain ⟨h1,h2,h3⟩ := (ready_iff hsz hl hlt).1 hi
   have hin : i < n := by
    refine Classical.byContradiction fun hge=>?_
    obtain ⟨i0,hi0,hil0⟩ := hnot
    by_cases h5 : i = n + 1
    ·subst h5; exact h2 hfl
    ·exact hil0 (masks_table i (by rw [masks_length]; simpa using h1) l hb h3 i0 (hm i h1 (by omega) h5 i0 (by omega)))
   have hlA : ∀ j,j < (opsF ops n).size → listedA[j]? = some ((l.map (fun x=>if x = n + 1 then n else x)).contains j) := by
    intro j hj
    rw [hszF] at hj
    rcases Nat.lt_or_ge j n with hjn | hjn
    ·rw [hl' j hjn]
     congr 1
     rw [Bool.eq_iff_iff,List.contains_iff_mem,List.contains_iff_mem,List.mem_map]
     constructor
     ·intro hh; exact ⟨j,hh,by rw [if_neg (by omega)]⟩
     ·rintro ⟨x,hx,hxe⟩
      split at hxe
      ·omega
      ·rw [← hxe]; exact hx
    ·have : j = n := by omega
     subst this
     rw [hln']
     congr 1
     symm
     rw [List.contains_iff_mem,List.mem_map]
     exact ⟨j + 1,hfl,by simp⟩
   have hr : i ∈ Region.ready .any (opsF ops n) listedA :=
    (ready_iff (by rw [hs',hszF]) hlA hltF).2 ⟨by omega,fun hh=>by
     obtain ⟨x,hx,hxe⟩ := List.mem_map.1 hh
     split at hxe
     ·omega
     ·exact h2 (hxe ▸ hx),fun j hj=>by
     rw [predsF_lt hn hin] at hj
     exact List.mem_map.2 ⟨j,h3 j hj,by have := hlt i h1 j hj; rw [if_neg (by omega)]⟩⟩
   obtain ⟨s1,s2⟩ := listed_step hsz hl h1
   refine wpOp_move (opsF_lt hn hin) (fun o g b ho hgo=>opsF_lt hn (by have := hg i o g b ho hgo; omega)) hQA (fun a' w' h'=>ih (l ++ [i]) _ _ a' w' (by simp; omega) (.snoc hb h2 h1 h3) (fun j hj=>?_) (List.mem_append_left _ hfl) (by simpa using hs') (fun j hj=>?_) ?_ s1 s2 h') (h.2 i hr)
   ·rcases List.mem_append.1 hj with hj | hj
    ·exact hln j hj
    ·rw [List.mem_singleton.1 hj]; exact .inl hin
   ·by_cases hji : j = i
    ·subst hji
     rw [Array.getElem?_setIfInBounds_self_of_lt (by omega)]; simp
    ·rw [Array.getElem?_setIfInBounds_ne (Ne.symm hji),hl' j hj]; simp [hji]
   ·rw [Array.getElem?_setIfInBounds_ne (by omega)]; exact hln'
theorem wpAny_float (hf : floatR ops n = true) (hQA : ∀ e a w,QA e a w → e = .normal) (hQB : ∀ e a w,QB e a w → e = .normal)
    (hA : ∀ a w,QA .normal a w → wpOps P ops Q (n :: List.range' (n + 2) (ops.size - (n + 2))) a w)
    (hB : ∀ a w,QB .normal a w → wpOps P ops Q (List.range' n (ops.size - n)) a w) :
    ∀ (fuel : Nat) (l : List Nat) (listedA listedB listed : Array Bool) (a : Act) (w : World),fuel + l.length = n → Begun ops l → (∀ j,j ∈ l → j < n) →
      listedA.size = n + 1 → (∀ j,j < n → listedA[j]? = some (l.contains j)) → listedA[n]? = some false → listedB.size = n → (∀ j,j < n → listedB[j]? = some (l.contains j)) →
      listed.size = ops.size → (∀ j,j < ops.size → listed[j]? = some (l.contains j)) →
      wpAny P .any (opsF ops n) QA (fuel + 1) listedA a w → wpAny P .any (ops.extract 0 n) QB fuel listedB a w → wpAny P .any ops Q (fuel + (ops.size - n)) listed a w := by
  obtain ⟨hn,hp0,⟨of,hof,hofg⟩,hlt,hg,hm⟩ := floatR_spec hf
  have hszF := opsF_size (ops := ops) hn
  have hszB : (ops.extract 0 n).size = n := by simp; omega
  have hltF : ∀ i,i < (opsF ops n).size → ∀ j,j ∈ predsOf (opsF ops n) i → j < i := by
    intro i hi j hj
    rw [hszF] at hi
    rcases Nat.lt_or_ge i n with h | h
    · rw [predsF_lt hn h] at hj; exact hlt i (by omega) j hj
    · have : i = n := by omega
      subst this; rw [predsF_n hn hp0] at hj; cases hj
  have hltB : ∀ i,i < (ops.extract 0 n).size → ∀ j,j ∈ predsOf (ops.extract 0 n) i → j < i := by
    intro i hi j hj
    rw [hszB] at hi
    rw [preds_extract (by omega) hi] at hj
    exact hlt i (by omega) j hj
  intro fuel
  -- the floating operation comes up
  have floats : ∀ (fuel : Nat) (l : List Nat) (listedA listed : Array Bool) (a : Act) (w : World),fuel + l.length = n → Begun ops l → (∀ j,j ∈ l → j < n) →
      listedA.size = n + 1 → (∀ j,j < n → listedA[j]? = some (l.contains j)) → listedA[n]? = some false → listed.size = ops.size → (∀ j,j < ops.size → listed[j]? = some (l.contains j)) →
      wpAny P .any (opsF ops n) QA (fuel + 1) listedA a w → wpOp P ops Q (n + 1) (wpAny P .any ops Q (fuel + (ops.size - (n + 1))) (listed.setIfInBounds (n + 1) true)) a w := by
    intro fuel l listedA listed a w hlen hb hln hsA hlA hlAn hsz hl h
    have hfl : n + 1 ∉ l := fun hh=>by have := hln _ hh; omega
    have hnl : n ∉ l := fun hh=>by have := hln _ hh; omega
    have hlA' : ∀ j,j < (opsF ops n).size → listedA[j]? = some (l.contains j) := by
      intro j hj
      rw [hszF] at hj
      rcases Nat.lt_or_ge j n with hjn | hjn
      · exact hlA j hjn
      · have : j = n := by omega
        subst this; rw [hlAn]; simp [hnl]
    have hr : n ∈ Region.ready .any (opsF ops n) listedA := (ready_iff (by rw [hsA,hszF]) hlA' hltF).2 ⟨by omega,hnl,fun j hj=>by rw [predsF_n hn hp0] at hj; cases hj⟩
    obtain ⟨s1,s2⟩ := listed_step hsz hl hn
    refine wpOp_move (opsF_n hn) (fun o g b ho hgo=>by rw [hof] at ho; cases ho; rw [hofg] at hgo; cases hgo) hQA
      (fun a' w' h'=>wpAny_floatA hf hQA hA fuel (l ++ [n + 1]) _ _ a' w' (by simp; omega) (.snoc hb hfl hn (fun j hj=>by rw [hp0] at hj; cases hj)) (fun j hj=>?_) (by simp) (by simpa using hsA) (fun j hj=>?_) ?_ s1 s2 h') (h.2 n hr)
    · rcases List.mem_append.1 hj with hj | hj
      · exact .inl (hln j hj)
      · exact .inr (List.mem_singleton.1 hj)
    · rw [Array.getElem?_setIfInBounds_ne (by omega),hlA j hj]
      have : j ≠ n + 1 := by omega
      simp [this]
    · simp [hsA]
  induction fuel with
  | zero =>
    intro l listedA listedB listed a w hlen hb hln hsA hlA hlAn hsB hlB hsz hl h hB'
    have hfull : ∀ i,i < n → i ∈ l := full_of_len hb.nodup.1 hln (by omega)
    have hnl : n ∉ l := fun hh=>by have := hln _ hh; omega
    rw [Nat.zero_add,show ops.size - n = (ops.size - (n + 1)) + 1 by omega]
    refine ⟨fun hnil=>?_,fun i hi=>?_⟩
    · have : n ∈ Region.ready .any ops listed := (ready_iff hsz hl hlt).2 ⟨by omega,hnl,fun j hj=>hfull j (hlt n (by omega) j hj)⟩
      rw [hnil] at this; cases this
    · obtain ⟨h1,h2,h3⟩ := (ready_iff hsz hl hlt).1 hi
      have him : i = n ∨ i = n + 1 := by
        rcases Nat.lt_trichotomy i n with h4 | h4 | h4
        · exact absurd (hfull i h4) h2
        · exact .inl h4
        · by_cases h5 : i = n + 1
          · exact .inr h5
          · exact absurd (masks_table i (by rw [masks_length]; simpa using h1) l hb h3 n (hm i h1 (by omega) h5 n h4)) hnl
      rcases him with rfl | rfl
      · -- the call; then the floating one
        have hw := hB a w hB'.2
        rw [show ops.size - i = (ops.size - (i + 1)) + 1 by omega,List.range'_succ,wpOps_cons] at hw
        obtain ⟨s1,s2⟩ := listed_step hsz hl h1
        have hb1 : Begun ops (l ++ [i]) := .snoc hb h2 h1 h3
        have hmem1 : ∀ j,j ∈ l ++ [i] ↔ j < i + 1 := fun j=>by
          rw [List.mem_append,List.mem_singleton]
          exact ⟨fun h => by rcases h with h | h; · have := hln j h; omega
                             · omega, fun h => by rcases Nat.lt_or_ge j i with h' | h'; · exact .inl (hfull j h')
                                                  · exact .inr (by omega)⟩
        refine wpOp_mono (fun a' w' h'=>?_) hw
        rw [show ops.size - (i + 1) = (ops.size - (i + 2)) + 1 by omega] at h' ⊢
        rw [List.range'_succ,wpOps_cons] at h'
        refine ⟨fun hnil=>?_,fun q hq=>?_⟩
        · have : i + 1 ∈ Region.ready .any ops (listed.setIfInBounds i true) := (ready_iff s1 s2 hlt).2 ⟨hn,fun hh=>by have := (hmem1 _).1 hh; omega,fun j hj=>by rw [hp0] at hj; cases hj⟩
          rw [hnil] at this; cases this
        · obtain ⟨q1,q2,q3⟩ := (ready_iff s1 s2 hlt).1 hq
          have hqi : q = i + 1 := by
            have hge : ¬ q < i + 1 := fun hh=>q2 ((hmem1 q).2 hh)
            refine Classical.byContradiction fun hne=>?_
            have := masks_table q (by rw [masks_length]; simpa using q1) _ hb1 q3 (i + 1) (hm q q1 (by omega) hne (i + 1) (by omega))
            have := (hmem1 _).1 this
            omega
          subst hqi
          obtain ⟨u1,u2⟩ := listed_step s1 s2 q1
          refine wpOp_mono (fun a'' w'' h''=>wpAny_tail hlt (n := i + 2) (fun q hq hge j hj=>hm q hq (by omega) (by omega) j hj) (ops.size - (i + 2)) (i + 2) (l ++ [i] ++ [i + 1]) _ a'' w'' (by omega) (Nat.le_refl _)
            (.snoc hb1 q2 q1 q3) (fun j=>?_) u1 u2 h'') h'
          rw [List.mem_append,hmem1,List.mem_singleton]; omega
      · have := floats 0 l listedA listed a w (by omega) hb hln hsA hlA hlAn hsz hl h
        rwa [Nat.zero_add] at this
  | succ fuel ih =>
    intro l listedA listedB listed a w hlen hb hln hsA hlA hlAn hsB hlB hsz hl h hB'
    have hnl : n ∉ l := fun hh=>by have := hln _ hh; omega
    have hnot : ∃ i,i < n ∧ i ∉ l := by
      refine Classical.byContradiction fun hne=>?_
      have hall : ∀ i,i < n → i ∈ l := fun i hi=>Classical.byContradiction fun h2=>hne ⟨i,hi,h2⟩
      have := len_ge n l hall
      omega
    rw [Nat.add_right_comm]
    refine ⟨fun hnil=>?_,fun i hi=>?_⟩
    · exfalso
      obtain ⟨i0,hi0,hil0⟩ := hnot
      have key : ∀ i,i < n → i ∈ l := by
        intro i
        induction i using Nat.strongRecOn with
        | _ i ihi =>
          intro hin
          refine Classical.byContradiction fun hil=>?_
          have : i ∈ Region.ready .any ops listed := (ready_iff hsz hl hlt).2 ⟨by omega,hil,fun j hj=>ihi j (hlt i (by omega) j hj) (by have := hlt i (by omega) j hj; omega)⟩
          rw [hnil] at this; cases this
      exact hil0 (key i0 hi0)
    · obtain ⟨h1,h2,h3⟩ := (ready_iff hsz hl hlt).1 hi
      by_cases h5 : i = n + 1
      · subst h5
        have := floats (fuel + 1) l listedA listed a w (by omega) hb hln hsA hlA hlAn hsz hl h
        rwa [show fuel + 1 + (ops.size - (n + 1)) = fuel + (ops.size - n) by omega] at this
      · have hin : i < n := by
          refine Classical.byContradiction fun hge=>?_
          obtain ⟨i0,hi0,hil0⟩ := hnot
          exact hil0 (masks_table i (by rw [masks_length]; simpa using h1) l hb h3 i0 (hm i h1 (by omega) h5 i0 (by omega)))
        have hlA' : ∀ j,j < (opsF ops n).size → listedA[j]? = some (l.contains j) := by
          intro j hj
          rw [hszF] at hj
          rcases Nat.lt_or_ge j n with hjn | hjn
          · exact hlA j hjn
          · have : j = n := by omega
            subst this; rw [hlAn]; simp [hnl]
        have hrA : i ∈ Region.ready .any (opsF ops n) listedA := (ready_iff (by rw [hsA,hszF]) hlA' hltF).2 ⟨by omega,h2,fun j hj=>by rw [predsF_lt hn hin] at hj; exact h3 j hj⟩
        have hrB : i ∈ Region.ready .any (ops.extract 0 n) listedB :=
          (ready_iff (by rw [hsB,hszB]) (fun j hj=>hlB j (by omega)) hltB).2 ⟨by omega,h2,fun j hj=>by rw [preds_extract (by omega) hin] at hj; exact h3 j hj⟩
        -- both go on
        have kA := h.2 i hrA
        have kB := hB'.2 i hrB
        obtain ⟨s1,s2⟩ := listed_step hsz hl h1
        have kA' : wpOp P ops Q i (fun a' w'=>wpAny P .any (opsF ops n) QA (fuel + 1) (listedA.setIfInBounds i true) a' w') a w :=
          wpOp_move (opsF_lt hn hin) (fun o g b ho hgo=>opsF_lt hn (by have := hg i o g b ho hgo; omega)) hQA (fun _ _ h=>h) kA
        have kB' : wpOp P ops Q i (fun a' w'=>wpAny P .any (ops.extract 0 n) QB fuel (listedB.setIfInBounds i true) a' w') a w :=
          wpOp_move (extract_get (by omega) hin) (fun o g b ho hgo=>extract_get (by omega) (by have := hg i o g b ho hgo; omega)) hQB (fun _ _ h=>h) kB
        refine wpOp_mono (fun a' w' h'=>?_) (wpOp_and (floatR_val hf i hin) kA' kB')
        refine ih (l ++ [i]) _ _ _ a' w' (by simp; omega) (.snoc hb h2 h1 h3) (fun j hj=>?_) (by simpa using hsA) (fun j hj=>?_) ?_ (by simpa using hsB) (fun j hj=>?_) s1 s2 h'.1 h'.2
        · rcases List.mem_append.1 hj with hj | hj
          · exact hln j hj
          · rw [List.mem_singleton.1 hj]; exact hin
        · by_cases hji : j = i
          · subst hji
            rw [Array.getElem?_setIfInBounds_self_of_lt (by omega)]; simp
          · rw [Array.getElem?_setIfInBounds_ne (Ne.symm hji),hlA j hj]; simp [hji]
        · rw [Array.getElem?_setIfInBounds_ne (by omega)]; exact hlAn
        · by_cases hji : j = i
          · subst hji
            rw [Array.getElem?_setIfInBounds_self_of_lt (by omega)]; simp
          · rw [Array.getElem?_setIfInBounds_ne (Ne.symm hji),hlB j hj]; simp [hji]
end
end
end Sx
end
noncomputable section
namespace Sx
open Go RowKit

def ordT (P : Program) (cs : Ctrs) (ih : Conf → Tree) (c : Conf) (ops : Array Oper) (ri : Option (Array Oper × List Nat)) (k : List Item) (depth : Nat) (hs : Nat → Nat → D) : Nat → List (Nat × Bool) → Tree
 | 0,_=>.stuck
 | n + 1,dec=>match canonR P cs ops depth dec hs (List.range ops.size) (c.top.tmps,c.mem) with
  | .done s es=>match checkR ops depth (masks ops.toList []) es s.2 with
   | true=>needs (es.flatMap (·.ps)) (ih { c with top := { c.top with ri := ri,todo := k,tmps := s.1 },mem := s.2 })
   | false=>.stuck
  | .ask t b=>.br b (ordT P cs ih c ops ri k depth hs n ((t,true) :: dec)) (ordT P cs ih c ops ri k depth hs n ((t,false) :: dec))
  | .bad=>.stuck
def depthFor (ops : Array Oper) (c : Conf) : Nat → Nat → Option Nat
 | 0,_=>none
 | n + 1,d=>match checkS ops d (masks ops.toList []) (c.top.tmps,c.mem) c.rest with
  | true=>some d
  | false=>depthFor ops c n (d + 10)
def depthK {β : Type _} : List SFrm → Nat → (Nat → β) → β
 | [],n,k=>k n
 | _ :: r,n,k=>depthK r (n + 1) k
theorem depthK_eq {β : Type _} : ∀ (r : List SFrm) (n : Nat) (k : Nat → β),depthK r n k = k (n + r.length)
 | [],n,k=>rfl
 | _ :: r,n,k=>by simp only [depthK,depthK_eq r,List.length_cons]; congr 1; omega
def isElt (ops : Array Oper) (x : Operand) : Bool :=
 match x with
 | .tmp t=>ops.toList.any fun o=>match o.dst with
  | some d=>d == t && (match o.op with
   | .indexAddr ..=>true
   | _=>false)
  | none=>false
 | _=>false
def bareCall (cs : Ctrs) (ops : Array Oper) : List Oper → Nat → Option Nat
 | [],_=>none
 | o :: r,n=>match o.op with
  | .call c=>match c.callee with
   | .value (.func f)=>match cs.find f with
    | none=>some n
    | some _=>bareCall cs ops r (n + 1)
   | .builtin .copy=>some n
   | _=>bareCall cs ops r (n + 1)
  | .store _ a _=>match isElt ops a with
   | true=>some n
   | false=>bareCall cs ops r (n + 1)
  | _=>bareCall cs ops r (n + 1)
def noBare (cs : Ctrs) : List Oper → Bool
 | []=>true
 | o :: r=>match o.op with
  | .call c=>match c.callee with
   | .value (.func f)=>match cs.find f with
    | none=>false
    | some _=>noBare cs r
   | .builtin .copy=>false
   | _=>noBare cs r
  | _=>noBare cs r

def drawC (P : Program) (cs : Ctrs) (ih : Conf → Tree) (c : Conf) (ops : Array Oper) (k : List Item) : Tree :=
 match P.follows .mixedOrders && Region.noSelect ops && calmOps ops with
 | true=>match bareCall cs ops ops.toList 0 with
  | none=>depthK c.rest 1 fun d=>match depthFor ops c 40 d with
   | some depth=>.all fun hs=>ordT P cs ih c ops none k depth hs 12 []
   | none=>.stuck
  | some n=>match forcedR ops n with
   | true=>natF n fun n=>depthK c.rest 1 fun d=>match depthFor (ops.extract 0 n) c 40 d with
    | some depth=>.all fun hs=>ordT P cs ih c (ops.extract 0 n) (some (ops,List.range' n (ops.size - n))) k depth hs 12 []
    | none=>.stuck
   | false=>match floatR ops n with
    | true=>natF n fun n=>depthK c.rest 1 fun d=>match depthFor (ops.extract 0 n) c 40 d with
     | some depth=>match depthFor (opsF ops n) c 40 d with
      | some depth'=>.all fun h=>.br (D.isNil (h 0 0)) (.all fun hs=>ordT P cs ih c (ops.extract 0 n) (some (ops,List.range' n (ops.size - n))) k depth hs 12 [])
        (.all fun hs=>ordT P cs ih c (opsF ops n) (some (ops,n :: List.range' (n + 2) (ops.size - (n + 2)))) k depth' hs 12 [])
      | none=>.stuck
     | none=>.stuck
    | false=>match noBare cs ops.toList with
     | true=>depthK c.rest 1 fun d=>match depthFor ops c 40 d with
      | some depth=>.all fun hs=>ordT P cs ih c ops none k depth hs 12 []
      | none=>.stuck
     | false=>.stuck
 | false=>.stuck

section
variable {P : Program} {C : Ctx} {cs : Ctrs}

theorem depthFor_spec {ops : Array Oper} {c : Conf} : ∀ {n d depth : Nat},depthFor ops c n d = some depth → checkS ops depth (masks ops.toList []) (c.top.tmps,c.mem) c.rest = true
 | 0,_,_,h=>by cases h
 | n + 1,d,depth,h=>by
  simp only [depthFor] at h
  split at h
  ·rename_i hc; cases h; exact hc
  ·exact depthFor_spec h

theorem ordT_sound {R : Value → World → Prop} {ih : Conf → Tree} (hih : ∀ c,(ih c).holds P C R → Runs P C c R) {c : Conf} {ops : Array Oper} {ri : Option (Array Oper × List Nat)} {k : List Item} {depth : Nat} {hs : Nat → Nat → D} :
  ∀ {n : Nat} {dec : List (Nat × Bool)},(ordT P cs ih c ops ri k depth hs n dec).holds P C R →
   Chk P cs ops depth (c.top.tmps,c.mem) hs fun s=>Runs P C ⟨⟨c.top.fn,ri,c.top.await,k,s.1⟩,c.rest,s.2⟩ R
 | 0,_,h=>h.elim
 | n + 1,dec,h=>by
  simp only [ordT] at h
  split at h
  ·rename_i s es hc
   split at h
   ·rename_i hk
    obtain ⟨h1,h2⟩ := needs_holds h
    exact chk_of hc hk (fun e he p hp=>h1 p (List.mem_flatMap.2 ⟨e,he,hp⟩)) (hih _ h2)
   ·exact h.elim
  ·rename_i t b hc
   cases b with
   | true=>exact ordT_sound hih (h.1 rfl)
   | false=>exact ordT_sound hih (h.2 rfl)
  ·exact h.elim

theorem drawC_sound (hcs : cs.Ok P) {R : Value → World → Prop} {ih : Conf → Tree} (hih : ∀ c,(ih c).holds P C R → Runs P C c R) {f : FuncId} {aw : Option Tmp} {id : Nat} {ops : Array Oper} {k : List Item}
    {tmps : List SV} {rest : List SFrm} {mem : Mem}
    (h : (drawC P cs ih ⟨⟨f,none,aw,.code (.region id ops true) :: k,tmps⟩,rest,mem⟩ ops k).holds P C R) : Runs P C ⟨⟨f,none,aw,.code (.region id ops true) :: k,tmps⟩,rest,mem⟩ R := by
  unfold drawC at h
  split at h
  · rename_i hc
    simp only [Bool.and_eq_true] at hc
    obtain ⟨⟨hm,hsel⟩,hcalm⟩ := hc
    split at h
    · rw [depthK_eq] at h
      split at h
      · rename_i depth hd
        obtain ⟨c1,c2⟩ := checkS_spec (depthFor_spec hd)
        have hchk : ∀ hs,Chk P cs ops depth (tmps,mem) hs fun s=>Runs P C ⟨⟨f,none,aw,k,s.1⟩,rest,s.2⟩ R := fun hs=>ordT_sound hih (h hs)
        intro E H w g ok
        rw [stkRun_eq]
        simp only [SFrm.dn,CFrm.run]
        refine Go1.draw hm hcalm ?_
        have gd := g.drew
        exact ord_sound (ri := none) (aw := aw) hcs hchk c1 c2 ops.size [] (Array.replicate ops.size false) [] (fun _ _=>default) (fun _=>⟨[],.undef,[],none,none,none,none⟩) E H w.drew (by simp) .nil (by simp) (fun j hj=>by simp [hj]) trivial
          (by simp) gd ok.1 ok.2 rfl
      · exact h.elim
    · rename_i n hb
      split at h
      · rename_i hf
        rw [natF_eq,depthK_eq] at h
        split at h
        · rename_i depth hd
          obtain ⟨c1,c2⟩ := checkS_spec (depthFor_spec hd)
          have hn := (forcedR_spec hf).1
          have hsz : (ops.extract 0 n).size = n := by simp; omega
          have hchk : ∀ hs,Chk P cs (ops.extract 0 n) depth (tmps,mem) hs fun s=>Runs P C ⟨⟨f,some (ops,List.range' n (ops.size - n)),aw,k,s.1⟩,rest,s.2⟩ R := fun hs=>ordT_sound hih (h hs)
          intro E H w g ok
          rw [stkRun_eq]
          simp only [SFrm.dn,CFrm.run]
          refine Go1.draw hm hcalm ?_
          have gd := g.drew
          have key := ord_sound (E0 := E) (ri := some (ops,List.range' n (ops.size - n))) (aw := aw) hcs hchk c1 c2 (ops.extract 0 n).size [] (Array.replicate n false) [] (fun _ _=>default) (fun _=>⟨[],.undef,[],none,none,none,none⟩) E H w.drew (by simp) .nil (by simp; omega)
            (fun j hj => by have : j < n := by omega
                            simp [this]) trivial (by simp) gd ok.1 ok.2 rfl
          rw [hsz] at key
          have := wpAny_head (Q := Qk P (roOf C.x rest) f k (restOf P C.x (rest.map (SFrm.den E)) R)) hf (Q' := Qi P (roOf C.x rest) f (some (ops,List.range' n (ops.size - n))) aw k (restOf P C.x (rest.map (SFrm.den E)) R)) (fun e a w h=>h.1) (fun a w h=>h.2)
            n [] (Array.replicate n false) (Array.replicate ops.size false) _ w.drew (by simp) .nil (by simp) (by simp) (fun j hj=>by simp [hj]) (by simp) (fun j hj=>by simp [hj]) key
          rw [show n + (ops.size - n) = ops.size by omega] at this
          exact this
        · exact h.elim
      · split at h
        · rename_i hf
          rw [natF_eq,depthK_eq] at h
          split at h
          · rename_i depth hd
            split at h
            · rename_i depth' hd'
              obtain ⟨c1,c2⟩ := checkS_spec (depthFor_spec hd)
              obtain ⟨c1',c2'⟩ := checkS_spec (depthFor_spec hd')
              have hn := (floatR_spec hf).1
              have hsz : (ops.extract 0 n).size = n := by simp; omega
              have hszF := opsF_size (ops := ops) hn
              -- what is not looked at in one of the two arms may be changed
              have hchkB : ∀ hs,Chk P cs (ops.extract 0 n) depth (tmps,mem) hs fun s=>Runs P C ⟨⟨f,some (ops,List.range' n (ops.size - n)),aw,k,s.1⟩,rest,s.2⟩ R := fun hs =>
                ordT_sound hih ((h fun _ _=>.slc none 0 []).1 rfl hs)
              have hchkA : ∀ hs,Chk P cs (opsF ops n) depth' (tmps,mem) hs fun s=>Runs P C ⟨⟨f,some (ops,n :: List.range' (n + 2) (ops.size - (n + 2))),aw,k,s.1⟩,rest,s.2⟩ R := fun hs =>
                ordT_sound hih ((h fun _ _=>.slc (some (⟨0,0,none⟩,0)) 0 []).2 rfl hs)
              intro E H w g ok
              rw [stkRun_eq]
              simp only [SFrm.dn,CFrm.run]
              refine Go1.draw hm hcalm ?_
              have gd := g.drew
              have keyB := ord_sound (E0 := E) (ri := some (ops,List.range' n (ops.size - n))) (aw := aw) hcs hchkB c1 c2 (ops.extract 0 n).size [] (Array.replicate n false) [] (fun _ _=>default) (fun _=>⟨[],.undef,[],none,none,none,none⟩) E H w.drew (by simp) .nil (by simp; omega)
                (fun j hj => by have : j < n := by omega
                                simp [this]) trivial (by simp) gd ok.1 ok.2 rfl
              have keyA := ord_sound (E0 := E) (ri := some (ops,n :: List.range' (n + 2) (ops.size - (n + 2)))) (aw := aw) hcs hchkA c1' c2' (opsF ops n).size [] (Array.replicate (n + 1) false) [] (fun _ _=>default) (fun _=>⟨[],.undef,[],none,none,none,none⟩) E H w.drew (by simp) .nil (by rw [hszF]; simp)
                (fun j hj => by have : j < n + 1 := by omega
                                simp [this]) trivial (by simp) gd ok.1 ok.2 rfl
              rw [hsz] at keyB
              rw [hszF] at keyA
              have := wpAny_float (Q := Qk P (roOf C.x rest) f k (restOf P C.x (rest.map (SFrm.den E)) R)) hf
                (QA := Qi P (roOf C.x rest) f (some (ops,n :: List.range' (n + 2) (ops.size - (n + 2)))) aw k (restOf P C.x (rest.map (SFrm.den E)) R)) (QB := Qi P (roOf C.x rest) f (some (ops,List.range' n (ops.size - n))) aw k (restOf P C.x (rest.map (SFrm.den E)) R))
                (fun e a w h=>h.1) (fun e a w h=>h.1) (fun a w h=>h.2) (fun a w h=>h.2)
                n [] (Array.replicate (n + 1) false) (Array.replicate n false) (Array.replicate ops.size false) _ w.drew (by simp) .nil (by simp) (by simp) (fun j hj=>by
                  have : j < n + 1 := by omega
                  simp [this]) (by simp) (by simp) (fun j hj=>by simp [hj]) (by simp) (fun j hj=>by simp [hj]) keyA keyB
              rw [show n + (ops.size - n) = ops.size by omega] at this
              exact this
            · exact h.elim
          · exact h.elim
        · split at h
          · rw [depthK_eq] at h
            split at h
            · rename_i depth hd
              obtain ⟨c1,c2⟩ := checkS_spec (depthFor_spec hd)
              have hchk : ∀ hs,Chk P cs ops depth (tmps,mem) hs fun s=>Runs P C ⟨⟨f,none,aw,k,s.1⟩,rest,s.2⟩ R := fun hs=>ordT_sound hih (h hs)
              intro E H w g ok
              rw [stkRun_eq]
              simp only [SFrm.dn,CFrm.run]
              refine Go1.draw hm hcalm ?_
              have gd := g.drew
              exact ord_sound (ri := none) (aw := aw) hcs hchk c1 c2 ops.size [] (Array.replicate ops.size false) [] (fun _ _=>default) (fun _=>⟨[],.undef,[],none,none,none,none⟩) E H w.drew (by simp) .nil (by simp) (fun j hj=>by simp [hj]) trivial
                (by simp) gd ok.1 ok.2 rfl
            · exact h.elim
          · exact h.elim
  · exact h.elim
end
end Sx
end
noncomputable section
namespace Sx
open Go RowKit

mutual
def SV.ren (ρ : Nat → Nat) : SV → SV
 | .vec k=>.vec (ρ k)
 | .ptr k o=>.ptr (ρ k) o
 | .velt k s i j=>.velt (ρ k) s i j
 | .view k s i j=>.view (ρ k) s i j
 | .mapp k=>.mapp (ρ k)
 | .sl k n=>.sl (ρ k) n
 | .agg l=>.agg (SV.renL ρ l)
 | .tup l=>.tup (SV.renL ρ l)
 | .fn f a c=>.fn f (SV.renL ρ a) (SV.renL ρ c)
 | .int k n=>.int k n
 | .bool b=>.bool b
 | .lb b=>.lb b
 | .str s=>.str s
 | .nils=>.nils
 | .dat d=>.dat d
 | .elt d i j=>.elt d i j
 | .nilp=>.nilp
 | .nilf=>.nilf
 | .undef=>.undef
 | .junk i=>.junk i
 | .raw v=>.raw v
def SV.renL (ρ : Nat → Nat) : List SV → List SV
 | []=>[]
 | x :: r=>SV.ren ρ x :: SV.renL ρ r
end

def OBlk.ren (ρ : Nat → Nat) : OBlk → OBlk
 | .cells t cs=>.cells t (SV.renL ρ cs)
 | .map es=>.map (es.map fun e=>(e.1.ren ρ,e.2.ren ρ))
 | .arr e d=>.arr e d
 | .pub d=>.pub d
 | .mapD kk ag ts d=>.mapD kk ag ts d

def Ren (ρ : Nat → Nat) (E E' : Env) (k : Nat) : Prop := E'.b (ρ k) = E.b k ∧ E'.v (ρ k) = E.v k

mutual
theorem SV.den_ren {ρ : Nat → Nat} {E E' : Env} (hj : E'.j = E.j) : ∀ x : SV,(∀ k,k ∈ x.keys → Ren ρ E E' k) → (x.ren ρ).den E' = x.den E
 | .vec k,h=>by simp only [SV.ren,SV.den,(h k (by simp [SV.keys])).2]
 | .ptr k _,h=>by simp only [SV.ren,SV.den,(h k (by simp [SV.keys])).1]
 | .velt k _ _ _,h=>by simp only [SV.ren,SV.den,(h k (by simp [SV.keys])).1]
 | .view k _ _ _,h=>by simp only [SV.ren,SV.den,(h k (by simp [SV.keys])).2]
 | .mapp k,h=>by simp only [SV.ren,SV.den,(h k (by simp [SV.keys])).1]
 | .sl k _,h=>by simp only [SV.ren,SV.den,(h k (by simp [SV.keys])).1]
 | .agg l,h=>by simp only [SV.ren,SV.den,SV.denL_ren hj l (by simpa [SV.keys] using h)]
 | .tup l,h=>by simp only [SV.ren,SV.den,SV.denL_ren hj l (by simpa [SV.keys] using h)]
 | .fn _ a c,h=>by
  simp only [SV.keys,List.mem_append] at h
  simp only [SV.ren,SV.den,SV.denL_ren hj a (fun k hk=>h k (.inl hk)),SV.denL_ren hj c (fun k hk=>h k (.inr hk))]
 | .int ..,_=>by simp [SV.ren,SV.den]
 | .bool _,_=>by simp [SV.ren,SV.den]
 | .lb _,_=>by simp [SV.ren,SV.den]
 | .str _,_=>by simp [SV.ren,SV.den]
 | .nils,_=>by simp [SV.ren,SV.den]
 | .dat _,_=>by simp [SV.ren,SV.den]
 | .elt ..,_=>by simp [SV.ren,SV.den]
 | .nilp,_=>by simp [SV.ren,SV.den]
 | .nilf,_=>by simp [SV.ren,SV.den]
 | .undef,_=>by simp [SV.ren,SV.den]
 | .junk _,_=>by simp [SV.ren,SV.den,hj]
 | .raw _,_=>by simp [SV.ren,SV.den]
theorem SV.denL_ren {ρ : Nat → Nat} {E E' : Env} (hj : E'.j = E.j) : ∀ l : List SV,(∀ k,k ∈ SV.keysL l → Ren ρ E E' k) → SV.denL E' (SV.renL ρ l) = SV.denL E l
 | [],_=>by simp [SV.renL,SV.denL]
 | x :: r,h=>by
  simp only [SV.keysL,List.mem_append] at h
  simp only [SV.renL,SV.denL,SV.den_ren hj x (fun k hk=>h k (.inl hk)),SV.denL_ren hj r (fun k hk=>h k (.inr hk))]
end

mutual
theorem SV.ok_ren {ρ : Nat → Nat} {H : HV} : ∀ x : SV,x.Ok H → (x.ren ρ).Ok H
 | .dat _,h=>by simpa only [SV.ren,SV.Ok] using h
 | .elt ..,h=>by simpa only [SV.ren,SV.Ok] using h
 | .agg l,h=>by simp only [SV.ren,SV.Ok] at h ⊢; exact SV.okL_ren l h
 | .tup l,h=>by simp only [SV.ren,SV.Ok] at h ⊢; exact SV.okL_ren l h
 | .fn _ a c,h=>by simp only [SV.ren,SV.Ok] at h ⊢; exact ⟨SV.okL_ren a h.1,SV.okL_ren c h.2⟩
 | .int ..,_=>by simp [SV.ren,SV.Ok]
 | .bool _,_=>by simp [SV.ren,SV.Ok]
 | .lb _,_=>by simp [SV.ren,SV.Ok]
 | .str _,_=>by simp [SV.ren,SV.Ok]
 | .nils,_=>by simp [SV.ren,SV.Ok]
 | .vec _,_=>by simp [SV.ren,SV.Ok]
 | .ptr ..,_=>by simp [SV.ren,SV.Ok]
 | .velt ..,_=>by simp [SV.ren,SV.Ok]
 | .view ..,_=>by simp [SV.ren,SV.Ok]
 | .nilp,_=>by simp [SV.ren,SV.Ok]
 | .nilf,_=>by simp [SV.ren,SV.Ok]
 | .mapp _,_=>by simp [SV.ren,SV.Ok]
 | .sl _ _,_=>by simp [SV.ren,SV.Ok]
 | .undef,_=>by simp [SV.ren,SV.Ok]
 | .junk _,_=>by simp [SV.ren,SV.Ok]
 | .raw _,_=>by simp [SV.ren,SV.Ok]
theorem SV.okL_ren {ρ : Nat → Nat} {H : HV} : ∀ l : List SV,SV.OkL H l → SV.OkL H (SV.renL ρ l)
 | [],_=>by simp [SV.renL,SV.OkL]
 | x :: r,h=>by simp only [SV.renL,SV.OkL] at h ⊢; exact ⟨SV.ok_ren x h.1,SV.okL_ren r h.2⟩
end

theorem OOk.ren {C : Ctx} {ρ : Nat → Nat} {E E' : Env} {H : HV} {w : World} {k : Nat} {o : OBlk} (hj : E'.j = E.j) (h : OOk C E H w k o) (hk : Ren ρ E E' k) (ho : ∀ j,j ∈ o.keys → Ren ρ E E' j)
  (hinj : ∀ es,o = .map es → KeysOk es → KeysOk (es.map fun e=>(e.1.ren ρ,e.2.ren ρ))) : OOk C E' H w (ρ k) (o.ren ρ) := by
 obtain ⟨k1,k2⟩ := hk
 cases o with
 | cells t cs =>
  obtain ⟨a,b,c,d⟩ := h
  exact ⟨by rw [k1]; exact a,by rw [k1,SV.denL_ren hj cs ho]; exact b,by rw [k1]; exact c,SV.okL_ren cs d⟩
 | pub d=>exact ⟨by rw [k2]; exact h.1,h.2⟩
 | mapD kk ag ts d =>
  obtain ⟨a,b,⟨en,cl,hh,hm⟩,c⟩ := h
  exact ⟨by rw [k1]; exact a,by rw [k1]; exact b,⟨en,cl,by rw [k1]; exact hh,by rw [den_mapEs E E']; exact hm⟩,c⟩
 | map es =>
  obtain ⟨a,b,⟨en,cl,hh,hm⟩,c,d⟩ := h
  refine ⟨by rw [k1]; exact a,by rw [k1]; exact b,⟨en,cl,by rw [k1]; exact hh,hm.1.trans (List.Perm.of_eq ?_),hm.2⟩,?_,hinj es rfl d⟩
  ·rw [List.map_map]
   apply List.map_congr_left
   intro e he
   simp only [OBlk.keys,List.mem_flatMap,List.mem_append] at ho
   simp only [Function.comp,SV.den_ren hj e.1 (fun j hj=>ho j ⟨e,he,.inl hj⟩),SV.den_ren hj e.2 (fun j hj=>ho j ⟨e,he,.inr hj⟩)]
  ·intro e he
   obtain ⟨x,hx,rfl⟩ := List.mem_map.1 he
   exact ⟨SV.ok_ren _ (c x hx).1,SV.ok_ren _ (c x hx).2⟩
 | arr e d =>
  obtain ⟨hd,sz,rows,rfl,hv,how,hl,hk2,hx⟩ := h
  exact ⟨hd,sz,rows,rfl,by rw [k2]; exact hv,how,hl,hk2,fun a c hc=>by
   obtain ⟨p,q⟩ := hx a c hc
   exact ⟨by rw [k1]; exact p,by rw [k1]; exact q⟩⟩

theorem keysOk_ren {ρ : Nat → Nat} {es : List (SV × SV)} (h : KeysOk es) : KeysOk (es.map fun e=>(e.1.ren ρ,e.2.ren ρ)) := by
 refine ⟨fun e he=>?_,?_⟩
 ·obtain ⟨x,hx,rfl⟩ := List.mem_map.1 he
  obtain ⟨k,n,hk⟩ := h.1 x hx
  exact ⟨k,n,by simp [hk,SV.ren]⟩
 ·rw [List.pairwise_map]
  refine h.2.imp_of_mem ?_
  intro a b ha hb hne
  obtain ⟨k,n,hk⟩ := h.1 a ha
  obtain ⟨k',n',hk'⟩ := h.1 b hb
  rw [hk,hk'] at hne
  simpa [hk,hk',SV.ren] using hne
def meet : List Nat → List Nat → List Nat
 | acc,[]=>acc
 | acc,k :: r=>match acc.contains k with
  | true=>meet acc r
  | false=>meet (acc ++ [k]) r

def idxOf (k : Nat) : Nat → List Nat → Nat
 | n,[]=>n
 | n,x :: r=>match Nat.beq x k with
  | true=>n
  | false=>idxOf k (n + 1) r

theorem meet_mem {k : Nat} : ∀ {l acc : List Nat},k ∈ acc ∨ k ∈ l → k ∈ meet acc l
 | [],acc,h=>by simpa [meet] using h
 | x :: r,acc,h=>by
  simp only [meet]
  split
  ·rename_i hx
   refine meet_mem ?_
   rcases h with h | h
   ·exact .inl h
   ·rcases List.mem_cons.1 h with rfl | h
    ·exact .inl (by simpa using hx)
    ·exact .inr h
  ·refine meet_mem ?_
   rcases h with h | h
   ·exact .inl (List.mem_append_left _ h)
   ·rcases List.mem_cons.1 h with rfl | h
    ·exact .inl (by simp)
    ·exact .inr h

theorem idxOf_spec {k : Nat} : ∀ {l : List Nat} {n : Nat},k ∈ l → ∃ i,idxOf k n l = n + i ∧ l[i]? = some k
 | [],_,h=>by cases h
 | x :: r,n,h=>by
  simp only [idxOf]
  cases hx : Nat.beq x k with
  | true=>exact ⟨0,by simp,by simp [Nat.eq_of_beq_eq_true hx]⟩
  | false =>
   have hne : x ≠ k := fun e=>by subst e; rw [Nat.beq_refl] at hx; cases hx
   rcases List.mem_cons.1 h with h | h
   ·exact absurd h.symm hne
   ·obtain ⟨i,h1,h2⟩ := idxOf_spec (n := n + 1) h
    exact ⟨i + 1,by simp only; omega,by simpa using h2⟩
def walkK (m : Mem) : Nat → Nat → List Nat → List Nat
 | 0,_,acc=>acc
 | n + 1,i,acc=>match acc[i]? with
  | none=>acc
  | some k=>walkK m n (i + 1) (meet acc (match m.get k with | some o=>o.keys | none=>[]))

theorem walkK_mem {m : Mem} {k : Nat} : ∀ {n i : Nat} {acc : List Nat},k ∈ acc → k ∈ walkK m n i acc
 | 0,_,_,h=>h
 | n + 1,i,acc,h=>by
  simp only [walkK]
  split
  ·exact h
  ·exact walkK_mem (meet_mem (.inl h))

def Conf.allKeys (c : Conf) : List Nat :=
 meet (walkK c.mem (c.mem.length + 4) 0 (meet [] (SV.keysL c.top.tmps ++ (c.rest.flatMap fun f=>SV.keysL f.tmps)))) (Mem.named c.mem)

def renWith (ρ : Nat → Nat) (c : Conf) : Conf :=
 ⟨{ c.top with tmps := SV.renL ρ c.top.tmps },c.rest.map fun f=>{ f with tmps := SV.renL ρ f.tmps },c.mem.map fun e=>(ρ e.1,e.2.ren ρ)⟩
def insM (x : Nat × OBlk) : Mem → Mem
 | []=>[x]
 | y :: r=>match Nat.ble x.1 y.1 with
  | true=>x :: y :: r
  | false=>y :: insM x r

def sortM : Mem → Mem
 | []=>[]
 | x :: r=>insM x (sortM r)

theorem insM_perm (x : Nat × OBlk) : ∀ m : Mem,(insM x m).Perm (x :: m)
 | []=>List.Perm.refl _
 | y :: r=>by
  simp only [insM]
  split
  ·exact List.Perm.refl _
  ·exact ((insM_perm x r).cons y).trans (List.Perm.swap _ _ _)

theorem sortM_perm : ∀ m : Mem,(sortM m).Perm m
 | []=>List.Perm.refl _
 | x :: r=>(insM_perm x _).trans ((sortM_perm r).cons x)

theorem Good.perm {C : Ctx} {m m' : Mem} {E : Env} {H : HV} {w : World} (g : Good C m E H w) (h : m'.Perm m) : Good C m' E H w :=
 ⟨g.below,g.ext,g.fresh,g.cell,fun k o hk=>g.own k o (h.subset hk),(h.pairwise_iff (fun {a b} (h : a.1 ≠ b.1)=>h.symm)).2 g.keys,fun x y hx hy=>g.apart x y (h.subset hx) (h.subset hy),g.fix⟩

def sortC (c : Conf) : Conf := { c with mem := sortM c.mem }

theorem sortC_sound {P : Program} {C : Ctx} {R : Value → World → Prop} {c : Conf} (h : Runs P C (sortC c) R) : Runs P C c R :=
 fun E H w g ok=>h E H w (g.perm (sortM_perm _)) ok
def newKy (ks : List Nat) (k : Nat) : Nat :=
 match Nat.ble PIN k with
 | true=>k
 | false=>idxOf k 0 ks
def renC (c : Conf) : Conf :=
 match Nat.blt c.allKeys.length PIN with
 | true=>renWith (newKy c.allKeys) c
 | false=>c
def headC {β : Type _} (P : Program) (c : Conf) (k : Conf → β) : β := nz (renC (fgt P c)) fun c=>nz (sortC c) k

theorem renC_sound {P : Program} {C : Ctx} {R : Value → World → Prop} {c : Conf} (h : Runs P C (renC c) R) : Runs P C c R := by
 unfold renC at h
 cases hsz : Nat.blt c.allKeys.length PIN with
 | false=>rw [hsz] at h; exact h
 | true =>
 rw [hsz] at h
 have hsz : c.allKeys.length < PIN := by simpa [Nat.blt_eq] using hsz
 intro E H w g ok
 have spec : ∀ k,k ∈ c.allKeys → ∃ i,idxOf k 0 c.allKeys = i ∧ c.allKeys[i]? = some k := fun k hk=>by
  obtain ⟨i,h1,h2⟩ := idxOf_spec (n := 0) hk
  exact ⟨i,by omega,h2⟩
 have all : ∀ k,k ∈ SV.keysL c.top.tmps ∨ (∃ f,f ∈ c.rest ∧ k ∈ SV.keysL f.tmps) ∨ k ∈ Mem.named c.mem → k ∈ c.allKeys := fun k hk=>by
  rcases hk with hk | ⟨f,hf,hk⟩ | hk
  ·exact meet_mem (.inl (walkK_mem (meet_mem (.inr (List.mem_append_left _ hk)))))
  ·exact meet_mem (.inl (walkK_mem (meet_mem (.inr (List.mem_append_right _ (List.mem_flatMap.2 ⟨f,hf,hk⟩))))))
  ·exact meet_mem (.inr hk)
 let E' : Env := ⟨fun i=>if PIN ≤ i then E.b i else E.b (c.allKeys.getD i 0),fun i=>if PIN ≤ i then E.v i else E.v (c.allKeys.getD i 0),E.j⟩
 let ρ : Nat → Nat := newKy c.allKeys
 have cas : ∀ k,k ∈ c.allKeys → (PIN ≤ k ∧ ρ k = k) ∨ (k < PIN ∧ ρ k < PIN ∧ ρ k = idxOf k 0 c.allKeys ∧ c.allKeys[ρ k]? = some k) := fun k hk=>by
  rcases Nat.lt_or_ge k PIN with hl | hl
  ·obtain ⟨i,h1,h2⟩ := spec k hk
   have e : ρ k = i := by
    have : Nat.ble PIN k = false := by
     cases hb : Nat.ble PIN k with
     | false=>rfl
     | true=>have := Nat.le_of_ble_eq_true hb; omega
    simp only [ρ,newKy,this,h1]
   have hi := (List.getElem?_eq_some_iff.1 h2).1
   exact .inr ⟨hl,by omega,by rw [e,h1],by rw [e]; exact h2⟩
  ·exact .inl ⟨hl,by simp only [ρ,newKy,Nat.ble_eq_true_of_le hl]⟩
 have ren : ∀ k,k ∈ c.allKeys → Ren ρ E E' k := fun k hk=>by
  rcases cas k hk with ⟨h1,h2⟩ | ⟨h1,h2,_,h3⟩
  ·simp only [Ren,E',h2,if_pos h1,and_self]
  ·simp only [Ren,E',if_neg (Nat.not_le.2 h2),List.getD_eq_getElem?_getD,h3,Option.getD_some,and_self]
 have inj : ∀ k j,k ∈ c.allKeys → j ∈ c.allKeys → ρ k = ρ j → k = j := fun k j hk hj e=>by
  rcases cas k hk with ⟨h1,h2⟩ | ⟨h1,h2,_,h3⟩ <;> rcases cas j hj with ⟨g1,g2⟩ | ⟨g1,g2,_,g3⟩
  ·rw [h2,g2] at e; exact e
  ·omega
  ·omega
  ·rw [e,g3] at h3; exact (Option.some.inj h3).symm
 have named : ∀ k o,(k,o) ∈ c.mem → k ∈ c.allKeys ∧ ∀ j,j ∈ o.keys → j ∈ c.allKeys := fun k o hm=>by
  refine ⟨all k (.inr (.inr ?_)),fun j hj=>all j (.inr (.inr ?_))⟩
  ·simp only [Mem.named,List.mem_flatMap]; exact ⟨_,hm,List.mem_cons_self⟩
  ·simp only [Mem.named,List.mem_flatMap]; exact ⟨_,hm,List.mem_cons_of_mem _ hj⟩
 have gd : Good C (c.mem.map fun e=>(ρ e.1,e.2.ren ρ)) E' H w := by
  refine ⟨g.below,g.ext,g.fresh,g.cell,fun k o hko=>?_,?_,fun x y hx hy hne hlx hly=>?_,g.fix.keep (fun k hk=>by simp only [E',if_pos hk]) fun _ _ h _=>h⟩
  ·obtain ⟨e,he,h1⟩ := List.mem_map.1 hko
   simp only [Prod.mk.injEq] at h1
   obtain ⟨rfl,rfl⟩ := h1
   obtain ⟨n1,n2⟩ := named e.1 e.2 he
   exact (g.own e.1 e.2 he).ren (E' := E') (show E'.j = E.j from rfl) (ren _ n1) (fun j hj=>ren j (n2 j hj)) (fun es _ hk=>keysOk_ren hk)
  ·rw [List.pairwise_map]
   refine g.keys.imp_of_mem ?_
   intro a b ha hb hne e
   exact hne (inj _ _ (named a.1 a.2 ha).1 (named b.1 b.2 hb).1 e)
  ·obtain ⟨a,ha,h1⟩ := List.mem_map.1 hx
   obtain ⟨b,hb,h2⟩ := List.mem_map.1 hy
   subst h1; subst h2
   simp only at hne hlx hly ⊢
   rw [(ren a.1 (named a.1 a.2 ha).1).1,(ren b.1 (named b.1 b.2 hb).1).1]
   have lies : ∀ o : OBlk,(o.ren ρ).Lies → o.Lies := fun o h=>by cases o <;> exact h
   exact g.apart a b ha hb (fun e=>hne (by rw [e])) (lies _ hlx) (lies _ hly)
 have hr := h E' H w gd ⟨SV.okL_ren _ ok.1,fun f hf=>by
  obtain ⟨f',hf',rfl⟩ := List.mem_map.1 hf
  exact SV.okL_ren _ (ok.2 f' hf')⟩
 have e1 : (renWith ρ c).top.den E' = c.top.den E := by
  simp only [renWith,SFrm.den]
  rw [SV.denL_ren (E := E) (E' := E') rfl _ fun k hk=>ren k (all k (.inl hk))]
 have e2 : (renWith ρ c).rest.map (SFrm.den E') = c.rest.map (SFrm.den E) := by
  simp only [renWith,List.map_map]
  apply List.map_congr_left
  intro f hf
  simp only [Function.comp,SFrm.den]
  rw [SV.denL_ren (E := E) (E' := E') rfl _ fun k hk=>ren k (all k (.inr (.inl ⟨f,hf,hk⟩)))]
 rw [e1,e2] at hr
 exact hr

theorem headC_sound {P : Program} {C : Ctx} {R : Value → World → Prop} {c : Conf} (h : (headC P c Tree.leaf).holds P C R) : Runs P C c R := by
 simp only [headC,nz_eq] at h
 exact fgt_sound (renC_sound (sortC_sound h))

/-! An empty slice is a row of one's own. -/
def vecIn (K : Nat) (e : TypeId) (sz : Nat) (blk : Option Nat) (off : Nat) (c : Conf) : Option Conf :=
 match c.fresh K with
 | false=>none
 | true=>match blk with
  | none=>match c.top.tmps[off]? with
   | some .nils=>some ⟨{ c.top with tmps := c.top.tmps.set off (.vec K) },c.rest,(K,.arr e (.slc none sz [])) :: c.mem⟩
   | _=>none
  | some b=>match c.mem.get b with
   | some (.cells t cs)=>match cs[off]? with
    | some .nils=>some ⟨c.top,c.rest,(K,.arr e (.slc none sz [])) :: c.mem.set b (.cells t (cs.set off (.vec K)))⟩
    | _=>none
   | _=>none

theorem denL_setVec {E : Env} {K : Nat} {l : List SV} {i : Nat} (h : l[i]? = some .nils) (hv : E.v K = (none,0)) : SV.denL E (l.set i (.vec K)) = SV.denL E l := by
 rw [denL_set,SV.denL_eq]
 apply List.ext_getElem?
 intro j
 by_cases hj : j = i
 ·subst hj
  rw [List.getElem?_set_self (by have := (List.getElem?_eq_some_iff.1 h).1; simpa using this)]
  simp [h,SV.den,hv,hval]
 ·rw [List.getElem?_set_ne (Ne.symm hj)]

theorem vecIn_sound {P : Program} {C : Ctx} {R : Value → World → Prop} {K : Nat} {e : TypeId} {sz : Nat} {blk : Option Nat} {off : Nat} {c c' : Conf} (hc : vecIn K e sz blk off c = some c') (h : Runs P C c' R) : Runs P C c R := by
 intro E H w g ok
 unfold vecIn at hc
 split at hc
 ·cases hc
 ·rename_i hf
  obtain ⟨f1,f2,f3⟩ := fresh_spec hf
  have ha := E.agree_setV K 0 (none,0)
  have hv : (E.setV K 0 (none,0)).v K = (none,0) := by simp [Env.setV]
  have cons : ∀ {m : Mem},Good C m E H w → Mem.has K m = false → Good C ((K,.arr e (.slc none sz [])) :: m) (E.setV K 0 (none,0)) H w := fun {m} gm hm =>
   Good.cons gm hm ha (Below.refl _ _) ⟨_,_,_,rfl,hv,⟨by simp [flat],.inl ⟨rfl,rfl⟩⟩,by simp,by simp,by simp⟩ (fun hl=>by simp [OBlk.Lies,D.hd] at hl)
  have hrest : c.rest.map (SFrm.den (E.setV K 0 (none,0))) = c.rest.map (SFrm.den E) := rest_agree ha f3
  split at hc
  ·split at hc
   ·rename_i hn
    cases hc
    have hr := h (E.setV K 0 (none,0)) H w (cons g f1) ⟨okL_putS (dst := some off) ok.1 (by simp [SV.Ok]),ok.2⟩
    simp only at hr
    rw [hrest] at hr
    have e1 : SFrm.den (E.setV K 0 (none,0)) { c.top with tmps := c.top.tmps.set off (.vec K) } = c.top.den E := by
     simp only [SFrm.den]
     rw [denL_setVec hn hv,SV.denL_agree ha _ f2]
    rw [e1] at hr
    exact hr
   ·cases hc
  ·rename_i b
   split at hc
   ·rename_i t cs hg
    split at hc
    ·rename_i hn
     cases hc
     -- the block holds what it held
     have hmem := Mem.get_mem hg
     have g1 := cons g f1
     have hkb : b ≠ K := fun e=>(Mem.has_key f1 _ hmem).1 (by rw [e])
     have hcs : SV.hasL K cs = false := (Mem.has_key f1 _ hmem).2
     have g2 : Good C ((K,.arr e (.slc none sz [])) :: c.mem.set b (.cells t (cs.set off (.vec K)))) (E.setV K 0 (none,0)) H w := by
      have hspec := Mem.set_spec (o' := .cells t (cs.set off (.vec K))) g.keys hg
      refine ⟨g1.below,g1.ext,g1.fresh,g1.cell,fun k o hko=>?_,?_,fun x y hx hy hne hlx hly=>?_,g1.fix⟩
      ·rcases List.mem_cons.1 hko with hk | hk
       ·exact g1.own k o (by rw [hk]; exact List.mem_cons_self)
       ·rcases hspec k o hk with ⟨rfl,rfl⟩ | ⟨hne,hm⟩
        ·obtain ⟨a1,a2,a3,a4⟩ := g1.own k _ (List.mem_cons_of_mem _ hmem)
         exact ⟨a1,by rw [denL_setVec hn hv]; exact a2,a3,okL_putS (dst := some off) a4 (by simp [SV.Ok])⟩
        ·exact g1.own k o (List.mem_cons_of_mem _ hm)
      ·rw [pairwise_keys]
       have := g1.keys
       rw [pairwise_keys] at this
       simpa [Mem.set_keys] using this
      ·have old : ∀ z : Nat × OBlk,z ∈ (K,OBlk.arr e (.slc none sz [])) :: c.mem.set b (.cells t (cs.set off (.vec K))) → z.2.Lies → ∃ o,(z.1,o) ∈ (K,OBlk.arr e (.slc none sz [])) :: c.mem ∧ o.Lies := by
        intro z hz hl
        rcases List.mem_cons.1 hz with rfl | hz
        ·exact ⟨_,List.mem_cons_self,hl⟩
        ·rcases hspec z.1 z.2 hz with ⟨h1,h2⟩ | ⟨_,hm⟩
         ·exact ⟨.cells t cs,List.mem_cons_of_mem _ (by rw [h1]; exact hmem),trivial⟩
         ·exact ⟨_,List.mem_cons_of_mem _ hm,hl⟩
       obtain ⟨ox,hx1,hx2⟩ := old x hx hlx
       obtain ⟨oy,hy1,hy2⟩ := old y hy hly
       exact g1.apart (x.1,ox) (y.1,oy) hx1 hy1 hne hx2 hy2
     have hr := h (E.setV K 0 (none,0)) H w g2 ok
     simp only at hr
     rw [hrest] at hr
     have e1 : SFrm.den (E.setV K 0 (none,0)) c.top = c.top.den E := by
      simp only [SFrm.den]
      rw [SV.denL_agree ha _ f2]
     rw [e1] at hr
     exact hr
    ·cases hc
   ·cases hc

end Sx
end
noncomputable section
namespace Sx
open Go RowKit
def brA (f : SV → Tree) (d : SV) : List (Bool × SV) → Tree
 | []=>f d
 | (b,v) :: r=>.br b (f v) (brA f d r)
def keyFor (c : Conf) (dst : Option Tmp) : Nat → Nat → Option Nat
 | 0,_=>none
 | n + 1,d=>match c.fresh (dstKey d dst) with
  | true=>some (dstKey d dst)
  | false=>keyFor c dst n (d + 10)

theorem keyFor_spec {c : Conf} {dst : Option Tmp} : ∀ {n d key : Nat},keyFor c dst n d = some key → c.fresh key = true
 | 0,_,_,h=>by cases h
 | n + 1,d,key,h=>by
  simp only [keyFor] at h
  split at h
  ·rename_i hc; cases h; exact hc
  ·exact keyFor_spec h

section
variable {β : Type _}
def nzR (l : List SFrm) (k : List SFrm → β) : β :=
 List.rec (motive := fun _=>(List SFrm → β) → β) (fun k=>k []) (fun x _ ih k=>nzL SV.nz2 x.tmps fun t=>ih fun r=>k (⟨x.fn,x.ri,x.await,x.todo,t⟩ :: r)) l k
theorem nzR_eq : ∀ (l : List SFrm) (k : List SFrm → β),nzR l k = k l
 | [],_=>rfl
 | x :: r,k=>by
  show nzL SV.nz2 x.tmps (fun t=>nzR r fun r'=>k (⟨x.fn,x.ri,x.await,x.todo,t⟩ :: r')) = _
  rw [nzL_eq SV.nz2_eq,nzR_eq r]
end
def leafR (c : Conf) : Tree := nzR c.rest fun r=>.leaf ⟨c.top,r,c.mem⟩
theorem leafR_eq : leafR = Tree.leaf := by funext c; simp only [leafR,nzR_eq]
theorem headR_sound {P : Program} {C : Ctx} {R : Value → World → Prop} {c : Conf} (h : (headC P c leafR).holds P C R) : Runs P C c R := headC_sound (by rwa [leafR_eq] at h)
def unroll (c : Conf) : Conf :=
 match c.top.todo with
 | .inLoop b :: k=>{ c with top := { c.top with todo := .code b :: .inLoop b :: k } }
 | _=>c
def stepC (P : Program) (cs : Ctrs) (U : FuncId → Bool) (ih : Conf → Tree) (c : Conf) : Tree :=
 let s := c.top
 match s.ri with
 | some (_,[])=>nz { c with top := { s with ri := none } } ih
 | some (ops,i :: l) =>
  match ops[i]? with
  | none=>ih { c with top := { s with ri := some (ops,l) } }
  | some o =>
   match guardR ops o s.tmps with
   | .bad=>.stuck
   | .no=>ih { c with top := { s with ri := some (ops,l),tmps := putS s.tmps o.dst .undef } }
   | .fork t b=>.br b (ih { c with top := { s with tmps := s.tmps.set t (.lb true) } }) (ih { c with top := { s with tmps := s.tmps.set t (.lb false) } })
   | .yes =>
    let quick := match opr P (evS s.tmps) c.mem 0 o.op with
     | .val ps v _=>needs ps (ih { c with top := { s with ri := some (ops,l),tmps := putS s.tmps o.dst v } })
     | _=>.stuck
    let plain := depthK c.rest 1 fun d=>match keyFor c o.dst 40 d with
     | some key=>match opr P (evS s.tmps) c.mem key o.op with
      | .val ps v m'=>needs ps (ih { c with top := { s with ri := some (ops,l),tmps := putS s.tmps o.dst v },mem := m' })
      | .all ps g=>needs ps (.all fun hs=>ih { c with top := { s with ri := some (ops,l),tmps := putS s.tmps o.dst (g (hs 0)).1 },mem := (g (hs 0)).2 })
      | .bad=>.stuck
     | none=>.stuck
    match o.op with
    | .pick (.tmp t) _ _ =>
     match s.tmps[t]? with
     | some (.bool b)=>.br b (ih { c with top := { s with tmps := s.tmps.set t (.lb true) } }) (ih { c with top := { s with tmps := s.tmps.set t (.lb false) } })
     | _=>quick
    | .store t a x =>
     match storeR P c.mem t (evS s.tmps a) (evS s.tmps x) with
     | some (ps,m')=>needs ps (ih { c with top := { s with ri := some (ops,l),tmps := putS s.tmps o.dst .undef },mem := m' })
     | none=>.stuck
    | .call cl =>
     match calleeOf (evS s.tmps) cl.callee with
     | some (f,first,captured) =>
      let args := first ++ cl.args.toList.map (evS s.tmps) ++ captured
      match cs.find f with
      | some ctr =>
       depthK c.rest 1 fun d=>match keyFor c o.dst 40 d with
       | some key =>
        match ctr args key c.mem with
        | .val ps v m'=>needs ps (ih { c with top := { s with ri := some (ops,l),tmps := putS s.tmps o.dst v },mem := m' })
        | .all ps g=>needs ps (.all fun hs=>ih { c with top := { s with ri := some (ops,l),tmps := putS s.tmps o.dst (g (hs 0)).1 },mem := (g (hs 0)).2 })
        | .bad=>.stuck
       | none=>.stuck
      | none =>
       match P.funcs[f]? with
       | some fn=>match fn.body with
        | some body=>match fn.name == "runtime.NumGoroutine" with
         | true=>.stuck
         | false=>nz { top := ⟨f,none,none,[.code body],args ++ List.replicate (fn.ntmps - args.length) .undef⟩,rest := { s with ri := some (ops,l),await := o.dst } :: c.rest,mem := c.mem } ih
        | none=>.stuck
       | none=>.stuck
     | none=>match quickOp o.op with
      | true=>quick
      | false=>plain
    | .lookup t x i ok =>
     match lookR P c.mem t (evS s.tmps x) (evS s.tmps i) ok with
     | some (al,d)=>brA (fun v=>ih { c with top := { s with ri := some (ops,l),tmps := putS s.tmps o.dst v } }) d al
     | none=>.stuck
    | _=>match quickOp o.op with
     | true=>quick
     | false=>plain
 | none =>
  match s.todo with
  | []=>retC P (fun c=>nz c ih) c
  | .code .ret :: _=>retC P (fun c=>nz c ih) c
  | .code .skip :: k=>ih { c with top := { s with todo := k } }
  | .code (.label _) :: k=>ih { c with top := { s with todo := k } }
  | .inBlock _ :: k=>ih { c with top := { s with todo := k } }
  | .inScope _ :: k=>ih { c with top := { s with todo := k } }
  | .code (.scope b) :: k=>ih { c with top := { s with todo := .code b :: .inScope b :: k } }
  | .code (.seq a b) :: k=>ih { c with top := { s with todo := .code a :: .code b :: k } }
  | .code (.cond x a b) :: k =>
   match evS s.tmps x with
   | .lb true=>ih { c with top := { s with todo := .code a :: k } }
   | .lb false=>ih { c with top := { s with todo := .code b :: k } }
   | .bool t=>.br t (ih { c with top := { s with todo := .code a :: k } }) (ih { c with top := { s with todo := .code b :: k } })
   | _=>.stuck
  | .code (.block id b) :: k=>ih { c with top := { s with todo := .code b :: .inBlock id :: k } }
  | .code (.loop b) :: k=>match U s.fn with
   | true=>ih { c with top := { s with todo := .code b :: .inLoop b :: k } }
   | false=>headC P { c with top := { s with todo := .inLoop b :: k } } leafR
  | .inLoop b :: k=>match U s.fn with
   | true=>ih { c with top := { s with todo := .code b :: .inLoop b :: k } }
   | false=>headC P { c with top := { s with todo := .inLoop b :: k } } leafR
  | .code (.exit id) :: k=>match exitTo id k with
   | some k'=>ih { c with top := { s with todo := k' } }
   | none=>.stuck
  | .code (.goto n) :: k=>match gotoIn n k with
   | some k'=>ih { c with top := { s with todo := k' } }
   | none=>.stuck
  | .code (.region _ ops false) :: k=>match calmOps ops with
   | true=>ih { c with top := { s with ri := some (ops,List.range ops.size),todo := k } }
   | false=>.stuck
  | .code (.region _ ops true) :: k=>drawC P cs ih c ops k
  | _=>.stuck
def execU (P : Program) (cs : Ctrs) (U : FuncId → Bool) (n : Nat) : Conf → Tree :=
 Nat.rec (motive := fun _=>Conf → Tree) (fun _=>.stuck) (fun _ ih c=>stepC P cs U ih c) n

def exec (P : Program) (cs : Ctrs) (n : Nat) : Conf → Tree := execU P cs (fun _=>false) n

end Sx
end
noncomputable section
namespace Sx
open Go RowKit

section
variable {P : Program} {C : Ctx} {R : Value → World → Prop} {cs : Ctrs}

theorem after_of_holds {ih : Conf → Tree} (hih : ∀ c,(ih c).holds P C R → Runs P C c R) {r : OpR} {c : Conf} {ops : Array Oper} {l : List Nat} {dst : Option Tmp}
  (h : (match r with
   | .val ps v m'=>needs ps (ih { c with top := { c.top with ri := some (ops,l),tmps := putS c.top.tmps dst v },mem := m' })
   | .all ps g=>needs ps (.all fun hs=>ih { c with top := { c.top with ri := some (ops,l),tmps := putS c.top.tmps dst (g (hs 0)).1 },mem := (g (hs 0)).2 })
   | .bad=>.stuck : Tree).holds P C R) : r.After P C R c ops l dst := by
 cases r with
 | val ps v m' =>
  obtain ⟨h1,h2⟩ := needs_holds h
  exact ⟨h1,hih _ h2⟩
 | all ps g =>
  obtain ⟨h1,h2⟩ := needs_holds h
  exact ⟨h1,fun hs=>hih _ (h2 fun _=>hs)⟩
 | bad=>exact h.elim

theorem set_same_den (E : Env) {tmps : List SV} {t : Nat} {b : Bool} (ht : tmps[t]? = some (.bool b)) : SV.denL E (tmps.set t (.lb b)) = SV.denL E tmps := by
 rw [denL_set]
 simp only [SV.den]
 rw [SV.denL_eq]
 apply List.ext_getElem?
 intro i
 by_cases hi : i = t
 ·subst hi
  have hlt : i < tmps.length := (List.getElem?_eq_some_iff.1 ht).1
  rw [List.getElem?_set_self (by simpa using hlt)]
  simp [ht,SV.den]
 ·rw [List.getElem?_set_ne (Ne.symm hi)]

theorem ok_set_lb {H : HV} {tmps : List SV} (h : SV.OkL H tmps) (t : Nat) (b : Bool) : SV.OkL H (tmps.set t (.lb b)) :=
 okL_putS (dst := some t) h (by simp [SV.Ok])
theorem runs_fork {c : Conf} {t : Nat} {b : Bool} (ht : c.top.tmps[t]? = some (.bool b))
  (h1 : b = true → Runs P C { c with top := { c.top with tmps := c.top.tmps.set t (.lb true) } } R)
  (h2 : b = false → Runs P C { c with top := { c.top with tmps := c.top.tmps.set t (.lb false) } } R) : Runs P C c R := by
 cases b with
 | true=>exact runs_top (h1 rfl) rfl rfl (fun H ok=>ok_set_lb ok.1 t true) (fun ds ro E w T h=>by simp only [SFrm.dn,set_same_den E ht] at h ⊢; exact h)
 | false=>exact runs_top (h2 rfl) rfl rfl (fun H ok=>ok_set_lb ok.1 t false) (fun ds ro E w T h=>by simp only [SFrm.dn,set_same_den E ht] at h ⊢; exact h)

theorem brA_holds {f : SV → Tree} {d : SV} : ∀ {l : List (Bool × SV)},(brA f d l).holds P C R → (f (pickA d l)).holds P C R
 | [],h=>h
 | (true,v) :: r,h=>h.1 rfl
 | (false,v) :: r,h=>brA_holds (l := r) (h.2 rfl)

theorem step_sound (hcs : cs.Ok P) {U : FuncId → Bool} {ih : Conf → Tree} (hih : ∀ c,(ih c).holds P C R → Runs P C c R) (c : Conf) (h : (stepC P cs U ih c).holds P C R) : Runs P C c R := by
 obtain ⟨⟨fn,ri,aw,todo,tmps⟩,rest,mem⟩ := c
 cases ri with
 | some x =>
  obtain ⟨ops,l⟩ := x
  cases l with
  | nil =>
   simp only [stepC,nz_eq] at h
   exact runs_top (hih _ h) rfl rfl (fun H ok=>ok.1) (fun ds ro E w T h=>⟨rfl,h⟩)
  | cons i l =>
   simp only [stepC] at h
   cases ho : ops[i]? with
   | none =>
    simp only [ho] at h
    refine runs_top (hih _ h) rfl rfl (fun H ok=>ok.1) (fun ds ro E w T h=>?_)
    simp only [SFrm.dn,CFrm.run,wpOps_cons] at h ⊢
    unfold wpOp
    simp only [ho]
    exact h
   | some o =>
    simp only [ho] at h
    cases hg : guardR ops o tmps with
    | bad=>simp only [hg] at h; exact h.elim
    | no =>
     simp only [hg] at h
     refine runs_top (hih _ h) rfl rfl (fun H ok=>okL_putS ok.1 (by simp [SV.Ok])) (fun ds ro E w T h=>?_)
     refine frm_no ho ((guardR_spec (E := E)).2.1 hg) ?_
     simp only [SFrm.dn] at h ⊢
     rw [← put_den] at h
     exact h
    | fork t b =>
     simp only [hg] at h
     exact runs_fork (t := t) (b := b) ((guardR_spec (E := ⟨fun _=>0,fun _=>(none,0),fun _=>.bool false⟩)).2.2 t b hg) (fun hb=>hih _ (h.1 hb)) (fun hb=>hih _ (h.2 hb))
    | yes =>
     simp only [hg] at h
     have plain : ∀ (key : Nat),Conf.fresh key ⟨⟨fn,some (ops,i :: l),aw,todo,tmps⟩,rest,mem⟩ = true →
       (opr P (evS tmps) mem key o.op).After P C R ⟨⟨fn,some (ops,i :: l),aw,todo,tmps⟩,rest,mem⟩ ops l o.dst → Runs P C ⟨⟨fn,some (ops,i :: l),aw,todo,tmps⟩,rest,mem⟩ R :=
      fun key hf ha=>runs_opr rfl ho hg hf ha
     -- an operation that reads alone
     have quick : quickOp o.op = true → (match opr P (evS tmps) mem 0 o.op with
       | .val ps v _=>needs ps (ih ⟨⟨fn,some (ops,l),aw,todo,putS tmps o.dst v⟩,rest,mem⟩)
       | _=>.stuck : Tree).holds P C R → Runs P C ⟨⟨fn,some (ops,i :: l),aw,todo,tmps⟩,rest,mem⟩ R := by
      intro hq h
      split at h
      ·rename_i ps v m' hr
       obtain ⟨h1,h2⟩ := needs_holds h
       have hr2 := hih _ h2
       intro E H w g ok
       obtain ⟨e1,e2⟩ := oprQ_spec (P := P) (o := o) (v := v) (ps := ps) g ok.1 (by simp only [oprQ,hq,if_true,hr]) h1
       have h3 := hr2 E H w g ⟨okL_putS ok.1 e2,ok.2⟩
       rw [stkRun_eq] at h3 ⊢
       simp only [SFrm.dn] at h3 ⊢
       rw [← put_den] at h3
       exact frm_op ho ((guardR_spec (E := E)).1 hg) (.inl e1) h3
      ·exact h.elim
     have other : (depthK rest 1 fun d=>match keyFor ⟨⟨fn,some (ops,i :: l),aw,todo,tmps⟩,rest,mem⟩ o.dst 40 d with
       | some key=>match opr P (evS tmps) mem key o.op with
        | .val ps v m'=>needs ps (ih ⟨⟨fn,some (ops,l),aw,todo,putS tmps o.dst v⟩,rest,m'⟩)
        | .all ps g=>needs ps (.all fun hs=>ih ⟨⟨fn,some (ops,l),aw,todo,putS tmps o.dst (g (hs 0)).1⟩,rest,(g (hs 0)).2⟩)
        | .bad=>.stuck
       | none=>.stuck : Tree).holds P C R → Runs P C ⟨⟨fn,some (ops,i :: l),aw,todo,tmps⟩,rest,mem⟩ R := by
      intro h
      rw [depthK_eq] at h
      split at h
      ·rename_i key hkey
       exact plain _ (keyFor_spec hkey) (after_of_holds hih h)
      ·exact h.elim
     have both : (match quickOp o.op with
       | true=>(match opr P (evS tmps) mem 0 o.op with
        | .val ps v _=>needs ps (ih ⟨⟨fn,some (ops,l),aw,todo,putS tmps o.dst v⟩,rest,mem⟩)
        | _=>.stuck : Tree)
       | false=>(depthK rest 1 fun d=>match keyFor ⟨⟨fn,some (ops,i :: l),aw,todo,tmps⟩,rest,mem⟩ o.dst 40 d with
        | some key=>match opr P (evS tmps) mem key o.op with
         | .val ps v m'=>needs ps (ih ⟨⟨fn,some (ops,l),aw,todo,putS tmps o.dst v⟩,rest,m'⟩)
         | .all ps g=>needs ps (.all fun hs=>ih ⟨⟨fn,some (ops,l),aw,todo,putS tmps o.dst (g (hs 0)).1⟩,rest,(g (hs 0)).2⟩)
         | .bad=>.stuck
        | none=>.stuck) : Tree).holds P C R → Runs P C ⟨⟨fn,some (ops,i :: l),aw,todo,tmps⟩,rest,mem⟩ R := by
      intro h
      cases hq : quickOp o.op with
      | true=>rw [hq] at h; exact quick hq h
      | false=>rw [hq] at h; exact other h
     split at h
     ·rename_i t x y hop
      split at h
      ·rename_i b ht
       exact runs_fork (t := t) (b := b) ht (fun hb=>hih _ (h.1 hb)) (fun hb=>hih _ (h.2 hb))
      ·exact quick (by rw [hop]; rfl) h
     ·rename_i t a x hop
      split at h
      ·rename_i ps m' hst
       obtain ⟨h1,h2⟩ := needs_holds h
       have hr2 := hih _ h2
       intro E H w g ok
       obtain ⟨w',e1,e2,_⟩ := storeR_spec (P := P) g (ok_evS ok.1 x) hst h1
       have h3 := hr2 E H w' e2 ⟨okL_putS ok.1 (by simp [SV.Ok]),ok.2⟩
       rw [stkRun_eq] at h3 ⊢
       simp only [SFrm.dn] at h3 ⊢
       rw [← put_den] at h3
       refine frm_op ho ((guardR_spec (E := E)).1 hg) (.inr ⟨?_,rfl⟩) h3
       unfold execOp
       simp only [hop,Sem.run_bind]
       rw [den_evS,den_evS,e1]
       rfl
      ·exact h.elim
     ·rename_i cl hop
      split at h
      ·rename_i f first captured hcal
       split at h
       ·rename_i ctr hfind
        rw [depthK_eq] at h
        split at h
        ·rename_i key hkey
         exact runs_ctr rfl ho hg (keyFor_spec hkey) hop hcal (hcs _ (Ctrs.find_mem hfind)) (after_of_holds hih h)
        ·exact h.elim
       ·split at h
        ·rename_i fn' hfn
         split at h
         ·rename_i body hb
          split at h
          ·exact h.elim
          ·rename_i hn
           rw [nz_eq] at h
           exact runs_in rfl ho hg hop hcal hfn hb (by simpa using hn) (hih _ h)
         ·exact h.elim
        ·exact h.elim
      ·exact both h
     ·rename_i t x i' ok hop
      split at h
      ·rename_i al d hlk
       have hr2 := hih _ (brA_holds h)
       intro E H w g ok2
       obtain ⟨e1,e2⟩ := lookR_spec (P := P) g hlk
       have h3 := hr2 E H w g ⟨okL_putS ok2.1 e2,ok2.2⟩
       rw [stkRun_eq] at h3 ⊢
       simp only [SFrm.dn] at h3 ⊢
       rw [← put_den] at h3
       refine frm_op ho ((guardR_spec (E := E)).1 hg) (.inl ?_) h3
       unfold execOp
       simp only [hop,Sem.run_bind]
       rw [den_evS,den_evS,e1]
       rfl
      ·exact h.elim
     ·exact both h
 | none =>
  have hret : ∀ (todo' : List Item),(todo' = [] ∨ ∃ k,todo' = .code .ret :: k) →
    (retC P (fun c=>nz c ih) ⟨⟨fn,none,aw,todo',tmps⟩,rest,mem⟩).holds P C R →
    Runs P C ⟨⟨fn,none,aw,todo',tmps⟩,rest,mem⟩ R := by
   intro todo' htodo h
   simp only [retC] at h
   cases hfn : P.funcs[fn]? with
   | none=>simp only [hfn] at h; exact h.elim
   | some f =>
    simp only [hfn] at h
    cases hres : resS P mem tmps f.results.toList with
    | none=>simp only [hres] at h; exact h.elim
    | some l =>
     simp only [hres] at h
     cases rest with
     | nil =>
      obtain ⟨hrd,h⟩ := h
      intro E H w g ok
      have g' := g.take
      have hl : ∀ D,D ∈ C.x.df → w.heap[D]? = some (.deferred (some [])) := fun D hD=>(g.fix.fx D _ (g.fix.mark D hD).2).1
      obtain ⟨h1,h2⟩ := run_results (P := P) g' ok.1 hres
      have hT : R ((one? l).den E) (takeW C.x.df w) := by
       obtain ⟨H',hle,g2,_⟩ := pubsR_spec (leaves (one? l)) g'
       obtain ⟨e1,e2⟩ := closeV_spec g2 _ (h2.mono hle)
       rw [← e1]
       exact h E H' _ (g2.sub (List.nil_sublist _)) e2
      show Go1 P (kindOf C.x) fn todo' ⟨(SV.denL E tmps).toArray,marksOf C.x.df⟩ w R
      rw [show kindOf C.x = none by simp [kindOf,hrd]]
      rcases htodo with rfl | ⟨k,rfl⟩
      ·exact Go1.fin hfn rfl g.fix.nodup hl h1 hT
      ·exact Go1.ret hfn rfl g.fix.nodup hl h1 hT
     | cons s r =>
      intro E H w g ok
      obtain ⟨h1,h2⟩ := run_results (P := P) g ok.1 hres
      have h : (nz _ ih).holds P C R := h
      rw [nz_eq] at h
      have hr := hih _ h E H w g ⟨okL_putS (ok.2 s List.mem_cons_self) h2,fun f hf=>ok.2 f (List.mem_cons_of_mem _ hf)⟩
      have hT : restOf P C.x ((s :: r).map (SFrm.den E)) R ((one? l).den E) w := by
       simp only [List.map_cons,restOf]
       simp only [SFrm.den] at hr ⊢
       rw [← put_den] at hr
       cases r <;> exact hr
      rw [stkRun_eq]
      show Go1 P none fn todo' ⟨(SV.denL E tmps).toArray,[]⟩ w _
      rcases htodo with rfl | ⟨k,rfl⟩
      ·exact Go1.fin (l := []) hfn rfl List.nodup_nil (fun _ h=>by cases h) h1 hT
      ·exact Go1.ret (l := []) hfn rfl List.nodup_nil (fun _ h=>by cases h) h1 hT
  have one : ∀ (todo' : List Item),(∀ (b : Frame) cs w a K,step P (lone (b.atR a (todo ++ K)) cs w) = .next (lone (b.atR a (todo' ++ K)) cs w)) →
    Runs P C ⟨⟨fn,none,aw,todo',tmps⟩,rest,mem⟩ R → Runs P C ⟨⟨fn,none,aw,todo,tmps⟩,rest,mem⟩ R :=
   fun todo' hs hr=>runs_top hr rfl rfl (fun H ok=>ok.1) (fun ds ro E w T hh=>Go1.step (fun b cs K=>hs b cs w _ K) hh)
  cases todo with
  | nil=>exact hret [] (.inl rfl) h
  | cons it k =>
   cases it
   case inBlock id=>exact one _ (fun b cs w a K=>stepR_inBlock) (hih _ h)
   case inScope bd=>exact one _ (fun b cs w a K=>stepR_inScope) (hih _ h)
   case inLoop bd =>
    simp only [stepC] at h
    split at h
    ·exact one _ (fun b cs w a K=>stepR_inLoop) (hih _ h)
    ·exact headR_sound h
   case inRegion a b=>exact h.elim
   case inRangeFunc a=>exact h.elim
   case endRangeFunc a=>exact h.elim
   case beginRound=>exact h.elim
   case call=>exact h.elim
   case code cd =>
    cases cd
    case refuse=>exact h.elim
    case rangeFunc=>exact h.elim
    case skip=>exact one _ (fun b cs w a K=>stepR_skip) (hih _ h)
    case label n=>exact one _ (fun b cs w a K=>stepR_label) (hih _ h)
    case seq a b=>exact one _ (fun b cs w a K=>stepR_seq) (hih _ h)
    case scope b=>exact one _ (fun b cs w a K=>stepR_scope) (hih _ h)
    case block id b=>exact one _ (fun b cs w a K=>stepR_block) (hih _ h)
    case loop b =>
     -- at the head of a loop
     have headed : Runs P C ⟨⟨fn,none,aw,.inLoop b :: k,tmps⟩,rest,mem⟩ R → Runs P C ⟨⟨fn,none,aw,.code (.loop b) :: k,tmps⟩,rest,mem⟩ R := by
      exact fun hrun=>runs_top hrun rfl rfl (fun H ok=>ok.1) (fun ds ro E w T hh=>Go1.headed hh)
     simp only [stepC] at h
     split at h
     ·refine headed (runs_top (hih _ h) rfl rfl (fun H ok=>ok.1) (fun ds ro E w T hh=>Go1.step (fun fr cs K=>stepR_inLoop) hh))
     ·exact headed (headR_sound h)
    case ret=>exact hret _ (.inr ⟨k,rfl⟩) h
    case exit id =>
     simp only [stepC] at h
     split at h
     ·rename_i k' hk; exact one _ (fun b cs w a K=>stepR_exit (exitTo_append K hk)) (hih _ h)
     ·exact h.elim
    case goto n =>
     simp only [stepC] at h
     split at h
     ·rename_i k' hk; exact one _ (fun b cs w a K=>stepR_goto (gotoIn_append K hk)) (hih _ h)
     ·exact h.elim
    case cond x a b =>
     have go : ∀ (t : Bool),(∀ E,(evS tmps x).den E = .bool t) → Runs P C ⟨⟨fn,none,aw,.code (if t then a else b) :: k,tmps⟩,rest,mem⟩ R → Runs P C ⟨⟨fn,none,aw,.code (.cond x a b) :: k,tmps⟩,rest,mem⟩ R := by
      intro t ht hr
      refine runs_top hr rfl rfl (fun H ok=>ok.1) (fun ds ro E w T hh=>?_)
      exact Go1.step (fun fr cs K=>stepR_cond (by rw [SFrm.dn,den_evS]; exact ht E)) hh
     simp only [stepC] at h
     split at h
     ·rename_i hx; exact go true (fun E=>by rw [hx]; rfl) (hih _ h)
     ·rename_i hx; exact go false (fun E=>by rw [hx]; rfl) (hih _ h)
     ·rename_i t hx
      cases t with
      | true=>exact go true (fun E=>by rw [hx]; rfl) (hih _ (h.1 rfl))
      | false=>exact go false (fun E=>by rw [hx]; rfl) (hih _ (h.2 rfl))
     ·exact h.elim
    case region id ops draw =>
     cases draw with
     | true=>exact drawC_sound hcs hih h
     | false =>
      simp only [stepC] at h
      split at h
      ·rename_i hcalm
       exact runs_top (hih _ h) rfl rfl (fun H ok=>ok.1) (fun ds ro E w T hh=>Go1.region hcalm hh)
      ·exact h.elim
   exact h.elim

theorem execU_sound (hcs : cs.Ok P) (U : FuncId → Bool) : ∀ (n : Nat) (c : Conf),(execU P cs U n c).holds P C R → Runs P C c R
 | 0,_,h=>h.elim
 | n + 1,c,h=>step_sound (U := U) (ih := execU P cs U n) hcs (fun c h=>execU_sound hcs U n c h) c h

theorem exec_sound (hcs : cs.Ok P) (n : Nat) (c : Conf) (h : (exec P cs n c).holds P C R) : Runs P C c R := execU_sound hcs _ n c h
end
end Sx
end
noncomputable section
namespace Sx
open Go RowKit
structure After (w : World) (H : HV) (w' : World) (H' : HV) : Prop where
 below : Below w.heap.size w w'
 le : HLe H H'
 fresh : ∀ b o v,H' b o = some v → H b o = some v ∨ w.heap.size ≤ b
 cell : ∀ b o v,H' b o = some v → w'.cell? ⟨b,o,none⟩ = some v

def InMem (H : HV) (w : World) : Prop := ∀ b o v,H b o = some v → w.cell? ⟨b,o,none⟩ = some v
def PCall (P : Program) (f : FuncId) (H : HV) (args : List Value) (T : HV → Value → Prop) : Prop :=
 ∀ w,InMem H w → Calls P f args.toArray w fun e w'=>∃ v H',e = .returned v ∧ After w H w' H' ∧ T H' v

def entry (P : Program) (f : FuncId) (args : List SV) : Conf :=
 match P.funcs[f]? with
 | some fn=>match fn.body with
  | some b=>⟨⟨f,none,none,[.code b],args ++ List.replicate (fn.ntmps - args.length) .undef⟩,[],[]⟩
  | none=>⟨⟨f,none,none,[],[]⟩,[],[]⟩
 | none=>⟨⟨f,none,none,[],[]⟩,[],[]⟩
def Bodied (P : Program) (f : FuncId) : Bool :=
 match P.funcs[f]? with
 | some fn=>fn.body.isSome && !(fn.name == "runtime.NumGoroutine")
 | none=>false

theorem bodied_spec {P : Program} {f : FuncId} (h : Bodied P f = true) : ∃ fn,P.funcs[f]? = some fn ∧ fn.body.isSome = true ∧ (fn.name == "runtime.NumGoroutine") = false := by
 unfold Bodied at h
 split at h
 ·rename_i fn hfn
  simp only [Bool.and_eq_true,Bool.not_eq_true'] at h
  exact ⟨fn,hfn,h.1,h.2⟩
 ·cases h

section
variable {P : Program} {f : FuncId} {H : HV}

theorem good_start {w : World} (hc : InMem H w) (E : Env) : Good ⟨w,H⟩ [] E H w :=
 ⟨Below.refl _ _,HLe.refl _,fun _ _ _ h=>.inl h,hc,by simp,List.Pairwise.nil,by simp,fixOk_plain _ _ _⟩
theorem pcall {args : List SV} {T : HV → Value → Prop} (hb : Bodied P f = true) (hok : SV.OkL H args) (E : Env)
  (h : ∀ w,Runs P ⟨w,H⟩ (entry P f args) fun v w'=>∃ H',After w H w' H' ∧ T H' v) : PCall P f H (SV.denL E args) T := by
 intro w hc
 obtain ⟨fn,hfn,hbs,_⟩ := bodied_spec hb
 cases hbody : fn.body with
 | none=>rw [hbody] at hbs; cases hbs
 | some b =>
  have he := h w
  simp only [entry,hfn,hbody] at he
  have hr := he E H w (good_start hc E) ⟨okL_append hok (by rw [SV.OkL_iff]; intro x hx; rw [List.eq_of_mem_replicate hx]; simp [SV.Ok]),by simp⟩
  rw [stkRun_eq] at hr
  simp only [List.map_nil,restOf,SFrm.dn,dsOf,roOf,CFrm.run] at hr
  have e3 : (SV.denL E args).toArray ++ Array.replicate (fn.ntmps - (SV.denL E args).toArray.size) undef = (SV.denL E (args ++ List.replicate (fn.ntmps - args.length) .undef)).toArray := by
   simp [SV.denL_eq,SV.den,← List.toArray_replicate]
  have hcall := calls_of_go1 (P := P) (f := f) (args := (SV.denL E args).toArray) (w := w) hfn hbody (by rw [e3]; exact hr)
  exact Calls.mono hcall fun e w' ⟨v,hv,H',h1,h2⟩=>⟨v,H',hv,h1,h2⟩
theorem after_good {w w' : World} {m : Mem} {E : Env} {H' : HV} (g : Good ⟨w,H⟩ m E H' w') : After w H w' H' := ⟨g.below,g.ext,g.fresh,g.cell⟩

theorem unroll_sound {C : Ctx} {R : Value → World → Prop} {c : Conf} (hri : c.top.ri = none) (h : Runs P C (unroll c) R) : Runs P C c R := by
 obtain ⟨⟨fn,ri,aw,todo,tmps⟩,rest,mem⟩ := c
 simp only at hri
 subst hri
 unfold unroll at h
 split at h
 ·rename_i b k he
  simp only at he
  subst he
  exact runs_top h rfl rfl (fun H ok=>ok.1) (fun ds ro E w T hh=>Go1.step (fun fr cs K=>stepR_inLoop) hh)
 ·exact h
inductive SpecR where
 | scalar (ps : List Prop) (v : SV)
 | data (ps : List Prop) (g : (Nat → D) → SV)
 | no
def SV.flat : SV → Bool
 | .int ..=>true
 | .bool _=>true
 | .lb _=>true
 | _=>false
def Law (P : Program) (f : FuncId) (spec : List SV → SpecR) : Prop :=
 Bodied P f = true ∧ ∀ (H : HV) (E : Env) (args : List SV),SV.OkL H args →
  match spec args with
  | .scalar ps v=>(∀ p,p ∈ ps → p) → PCall P f H (SV.denL E args) fun _ u=>u = v.den E
  | .data ps g=>(∀ p,p ∈ ps → p) → PCall P f H (SV.denL E args) fun H' u=>∃ hs,u = (g hs).den E ∧ (g hs).Ok H'
  | .no=>True
def ctrOf (spec : List SV → SpecR) : Ctr := fun args _ m =>
 match spec (closeL (pubsR (leavesL args) m) args) with
 | .scalar ps v=>if v.flat then .val ps v m else .bad
 | .data ps g=>.all ps fun hs=>(g hs,pubsR (leavesL args) m)
 | .no=>.bad

theorem closeL_spec {C : Ctx} {E : Env} {H : HV} {w : World} {m : Mem} (g : Good C m E H w) : ∀ l : List SV,SV.OkL H l → SV.denL E (closeL m l) = SV.denL E l ∧ SV.OkL H (closeL m l)
 | [],_=>by simp [closeL,SV.denL,SV.OkL]
 | x :: r,h=>by
  obtain ⟨a,b⟩ := closeV_spec g x h.1
  obtain ⟨c,d⟩ := closeL_spec g r h.2
  exact ⟨by simp only [closeL,SV.denL,a,c],b,d⟩

theorem pubsR_ro {m : Mem} (h : roM m = true) : ∀ l : List SV,pubsR l m = m
 | []=>rfl
 | x :: r=>by
  have hget : ∀ (m : Mem),roM m = true → ∀ k e d,m.get k ≠ some (.arr e d) := by
   intro m
   induction m with
   | nil=>intro _ k e d h; cases h
   | cons y s ih =>
    intro hm k e d hk
    obtain ⟨j,o⟩ := y
    simp only [Mem.get] at hk
    cases o with
    | cells t cs =>
     simp only [roM] at hm
     split at hk
     ·cases hk
     ·exact ih hm k e d hk
    | map es =>
     simp only [roM] at hm
     split at hk
     ·cases hk
     ·exact ih hm k e d hk
    | arr e d=>simp [roM] at hm
    | pub d=>simp [roM] at hm
    | mapD kk ag ts dm =>
     simp only [roM] at hm
     split at hk
     ·cases hk
     ·exact ih hm k e d hk
  have h1 : pubR m x = m := by
   unfold pubR
   split
   ·split
    ·rename_i hk; exact absurd hk (hget m h _ _ _)
    ·rfl
   ·rfl
  rw [pubsR,h1]
  exact pubsR_ro h r

theorem ctrOf_ro {spec : List SV → SpecR} : CtrRO (ctrOf spec) := by
 intro args key m h
 unfold ctrOf
 cases spec (closeL (pubsR (leavesL args) m) args) with
 | no=>trivial
 | scalar ps v=>by_cases hf : v.flat = true <;> simp [hf]
 | data ps g=>simp only [pubsR_ro h]; intros; trivial

theorem ctrOf_ok {spec : List SV → SpecR} (h : Law P f spec) : CtrOk P f (ctrOf spec) := by
 refine ⟨bodied_spec h.1,fun C E H w args key m g hargs hk hk2=>?_,ctrOf_ro⟩
 obtain ⟨H1,hle,g1,nw⟩ := pubsR_spec (leavesL args) g
 have hpm := pubsR_mem (leavesL args) (m := m)
 obtain ⟨e1,e2⟩ := closeL_spec g1 args (SV.OkL.mono hle _ hargs)
 have hl := h.2 H1 E _ e2
 unfold CallRight ctrOf
 cases hs : spec (closeL (pubsR (leavesL args) m) args) with
 | no=>simp
 | scalar ps v =>
  simp only [hs] at hl ⊢
  split
  ·rename_i r ps' v' m' he
   split at he
   ·rename_i hfl
    simp only [OpR.val.injEq] at he
    obtain ⟨rfl,rfl,rfl⟩ := he
    intro hp
    have hc := hl hp w g1.cell
    rw [e1] at hc
    refine Calls.mono hc fun e w' ⟨u,H',he,ha,hu⟩=>?_
    refine ⟨E,H,by rw [he,hu],Agree.refl _ _,HLe.refl _,g.call ha.below (HLe.refl _) (fun _ _ _ h=>.inl h) (fun b o v hb=>ha.cell b o v (ha.le b o v (hle b o v hb))),?_⟩
    refine ⟨by cases v <;> simp [SV.flat] at hfl <;> simp [SV.Ok],ha.below.size,fun b hb _=>ha.below.block b hb,fun _ _ _ h=>.inl h,fun k o h=>.inr ⟨o,h⟩,fun k o h hl=>.inr ⟨k,o,h,hl,rfl⟩,ha.below.os,ha.below.tape,ha.below.output⟩
   ·cases he
  ·rename_i r ps' g' he
   split at he <;> cases he
  ·trivial
 | data ps gg =>
  simp only [hs] at hl ⊢
  intro hp
  have hc := hl hp w g1.cell
  rw [e1] at hc
  refine Calls.mono hc fun e w' ⟨u,H',he,ha,hs',hu,hok⟩=>?_
  exact ⟨hs',E,H',by rw [he,hu],Agree.refl _ _,hle.trans ha.le,g1.call ha.below ha.le ha.fresh ha.cell,hok,ha.below.size,fun b hb _=>ha.below.block b hb,fun b x v h=>(by
   rcases ha.fresh b x v h with h1 | h1
   ·exact (nw b x v h1).imp id .inr
   ·exact .inr (.inl h1)),fun k o h=>.inr (hpm k o h).1,fun k o h hl=>.inr ⟨k,o,(hpm k o h).2 hl,hl,rfl⟩,ha.below.os,ha.below.tape,ha.below.output⟩
end
end Sx
end
noncomputable section
namespace Sx
open Go

def subC : Code → List Nat → Code
 | c,[]=>c
 | .seq a _,0 :: r=>subC a r
 | .seq _ b,1 :: r=>subC b r
 | .cond _ a _,0 :: r=>subC a r
 | .cond _ _ b,1 :: r=>subC b r
 | .block _ b,0 :: r=>subC b r
 | .loop b,0 :: r=>subC b r
 | .scope b,0 :: r=>subC b r
 | .rangeFunc _ _ a _,0 :: r=>subC a r
 | .rangeFunc _ _ _ b,1 :: r=>subC b r
 | c,_=>c
def cAt (P : Program) (f : FuncId) (p : List Nat) : Code :=
 match P.funcs[f]? with
 | some fn=>match fn.body with
  | some b=>subC b p
  | none=>.skip
 | none=>.skip
def opsAt (P : Program) (f : FuncId) (p : List Nat) : Array Oper :=
 match cAt P f p with
 | .region _ ops _=>ops
 | _=>#[]

def slotS (l : List (Nat × SV)) (t : Nat) (d : SV) : SV :=
 match l with
 | []=>d
 | (u,v) :: r=>if u == t then v else slotS r t d
def mkJ (d : Nat) (l : List (Nat × SV)) : Nat → Nat → List SV
 | _,0=>[]
 | t,n + 1=>slotS l t (.junk (1000 * d + t)) :: mkJ d l (t + 1) n
def mkU (l : List (Nat × SV)) : Nat → Nat → List SV
 | _,0=>[]
 | t,n + 1=>slotS l t .undef :: mkU l (t + 1) n

end Sx
end
noncomputable section
namespace Sx
open Go RowKit

def mkInts (h : Hd) (s : Nat) (xs : List Int) : D := .slc h s (xs.map fun x=>[.int .i64 x])
def D.ints (d : D) : List Int := d.rows.map fun r=>match r with | .int _ n :: _=>n | _=>0

def D.IsInts (d : D) : Prop := ∃ h s xs,d = mkInts h s xs

section
variable (h : Hd) (s : Nat) (xs : List Int)
@[simp] theorem mkInts_len : (mkInts h s xs).len = xs.length := by simp [mkInts,D.len,D.rows]
@[simp] theorem mkInts_sz : (mkInts h s xs).sz = s := rfl
@[simp] theorem mkInts_hd : (mkInts h s xs).hd = h := rfl
@[simp] theorem mkInts_isNil : (mkInts h s xs).isNil = h.isNone := rfl
@[simp] theorem mkInts_ints : (mkInts h s xs).ints = xs := by
 simp only [mkInts,D.ints,D.rows,List.map_map]
 have : ((fun r : List D=>match r with | .int _ n :: _=>n | _=>0) ∘ fun x : Int=>[D.int .i64 x]) = id := by funext x; rfl
 rw [this]; simp
@[simp] theorem mkInts_is : (mkInts h s xs).IsInts := ⟨h,s,xs,rfl⟩
@[simp] theorem mkInts_slc : (mkInts h s xs).IsSlc := ⟨h,s,_,rfl⟩
theorem mkInts_cellAt (i j : Nat) : (mkInts h s xs).cellAt i j = if j = 0 then (xs[i]?).map (D.int .i64) else none := by
 simp only [mkInts,D.cellAt,D.rows,List.getElem?_map]
 cases xs[i]? with
 | none=>simp
 | some x=>cases j <;> simp
@[simp] theorem mkInts_getInt (i : Nat) : (mkInts h s xs).getInt i 0 = xs.getD i 0 := by
 simp only [D.getInt,mkInts_cellAt,if_true,List.getD_eq_getElem?_getD]
 cases xs[i]? <;> rfl
@[simp] theorem mkInts_has (i : Nat) : (mkInts h s xs).HasCell i 0 (.int .i64) ↔ i < xs.length := by
 simp only [D.HasCell,mkInts_cellAt,if_true]
 constructor
 ·rintro ⟨n,hn⟩
  cases hx : xs[i]? with
  | none=>simp [hx] at hn
  | some x=>exact (List.getElem?_eq_some_iff.1 hx).1
 ·intro hi
  exact ⟨xs[i],by simp [hi]⟩
end
theorem wrap64 {n : Int} (h1 : -9223372036854775808 ≤ n) (h2 : n ≤ 9223372036854775807) : IntKind.i64.wrap n = n := by
 unfold IntKind.wrap
 simp only [IntKind.bits,IntKind.signed]
 by_cases h : n % 2 ^ 64 ≥ 2 ^ (64 - 1)
 ·simp [h]; omega
 ·simp [h]; omega
end Sx
end
noncomputable section
namespace Sx
open Go RowKit

theorem noCtr (P : Program) : Ctrs.Ok P [] := fun _ h=>by cases h
def env0 : Env := ⟨fun _=>0,fun _=>(none,0),fun _=>.bool false⟩
theorem runs_loop {P : Program} {C : Ctx} {R : Value → World → Prop} {σ : Type} (L : σ → Conf) (I : σ → Prop) (m : σ → Nat) (hri : ∀ s,(L s).top.ri = none)
  (hstep : ∀ s,I s → (∀ s',I s' → m s' < m s → Runs P C (L s') R) → Runs P C (unroll (L s)) R) : ∀ s,I s → Runs P C (L s) R := by
 have key : ∀ k s,m s = k → I s → Runs P C (L s) R := by
  intro k
  induction k using Nat.strongRecOn with
  | _ k ih =>
   intro s hk hI
   exact unroll_sound (hri s) (hstep s hI fun s' hI' hlt=>ih (m s') (by omega) s' rfl hI')
 exact fun s hI=>key _ s rfl hI
def SV.d? : SV → Option D
 | .nils=>some (.slc none 0 [])
 | .dat d=>some d
 | _=>none

theorem SV.d?_spec {H : HV} {E : Env} {v : SV} {d : D} (h : v.d? = some d) (hok : v.Ok H) : v.den E = d.val ∧ d.Ok H := by
 cases v <;> simp [SV.d?] at h <;> subst h
 ·exact ⟨by simp [SV.den,D.val,hval],.nil 0⟩
 ·exact ⟨by simp [SV.den],hok.1⟩


@[simp] theorem holds_br {P : Program} {C : Ctx} {R : Value → World → Prop} {b : Bool} {t f : Tree} : (Tree.br b t f).holds P C R ↔ (b = true → t.holds P C R) ∧ (b = false → f.holds P C R) := Iff.rfl



end Sx
end
noncomputable section
namespace Sx
open Go RowKit

class Codec (α : Type) where
 sz : Nat
 ok : List D → Prop
 dec : List D → α
 enc : α → List D
 ok_enc : ∀ a,ok (enc a)
 dec_enc : ∀ a,dec (enc a) = a
 len : ∀ r,ok r → r.length = sz

section
variable (α : Type) [Codec α]
def D.Is (d : D) : Prop := ∃ h s rows,d = .slc h s rows ∧ (rows = [] ∨ s = Codec.sz α) ∧ ∀ r,r ∈ rows → Codec.ok α r
def D.to (d : D) : List α := d.rows.map (Codec.dec (α := α))
end

section
variable {α : Type} [Codec α]

open Classical in
def D.like (d : D) (xs : List α) : D := if d.Is α ∧ d.to α = xs then d else .slc none (Codec.sz α) (xs.map Codec.enc)

theorem D.like_is (d : D) (xs : List α) : (d.like xs).Is α := by
 unfold D.like
 split
 ·rename_i h; exact h.1
 ·exact ⟨_,_,_,rfl,.inr rfl,fun r hr=>by obtain ⟨x,_,rfl⟩ := List.mem_map.1 hr; exact Codec.ok_enc x⟩

theorem D.like_to (d : D) (xs : List α) : (d.like xs).to α = xs := by
 unfold D.like
 split
 ·rename_i h; exact h.2
 ·simp only [D.to,D.rows,List.map_map]
  conv=>rhs; rw [← List.map_id xs]
  exact List.map_congr_left fun x _=>Codec.dec_enc x

theorem D.like_self {d : D} {xs : List α} (h : d.Is α) (h' : d.to α = xs) : d.like xs = d := by
 unfold D.like
 rw [if_pos ⟨h,h'⟩]

theorem D.Is.slc {d : D} (h : d.Is α) : d.IsSlc := by obtain ⟨a,b,c,rfl,_⟩ := h; exact ⟨a,b,c,rfl⟩

theorem D.Is.length (d : D) : d.len = (d.to α).length := by simp [D.len,D.to]

theorem D.Is.size {d : D} (h : d.Is α) {i : Nat} (hi : i < (d.to α).length) : d.sz = Codec.sz α := by
 obtain ⟨a,b,c,rfl,h1,h2⟩ := h
 rcases h1 with rfl | h1
 ·simp [D.to,D.rows] at hi
 ·exact h1

theorem D.Is.fits {d : D} (h : d.Is α) : d.Fits (Codec.sz α) := by
 obtain ⟨a,b,c,rfl,h1,h2⟩ := h
 exact h1
theorem D.Is.row {d : D} (h : d.Is α) {i : Nat} (hi : i < (d.to α).length) : ∃ r,d.rows[i]? = some r ∧ Codec.ok α r ∧ (d.to α)[i] = Codec.dec r := by
 obtain ⟨a,b,c,rfl,h1,h2⟩ := h
 simp only [D.to,D.rows,List.length_map] at hi
 refine ⟨c[i],by simp [D.rows,hi],h2 _ (List.getElem_mem hi),by simp [D.to,D.rows]⟩
theorem is_rows {h : Hd} {rows : List (List D)} {s : Nat} (hs : s = Codec.sz α) (hr : ∀ r,r ∈ rows → Codec.ok α r) : (D.slc h s rows).Is α := ⟨_,_,_,rfl,.inr hs,hr⟩

theorem is_nil (h : Hd) (s : Nat) : (D.slc h s []).Is α := ⟨_,_,_,rfl,.inl rfl,by simp⟩
theorem D.Is.sub {d : D} (hd : d.Is α) (l h : Nat) : (d.sub l h).Is α ∧ (d.sub l h).to α = ((d.to α).drop l).take (h - l) := by
 obtain ⟨a,b,c,rfl,h1,h2⟩ := hd
 refine ⟨⟨_,_,_,rfl,?_,fun r hr=>h2 r (List.mem_of_mem_drop (List.mem_of_mem_take hr))⟩,?_⟩
 ·rcases h1 with rfl | h1
  ·left; simp [D.rows]
  ·exact .inr h1
 ·simp [D.sub,D.to,D.rows,List.map_take,List.map_drop]

theorem D.Is.sub3 {d : D} (hd : d.Is α) (l h : Nat) : (d.sub3 l h).Is α ∧ (d.sub3 l h).to α = ((d.to α).drop l).take (h - l) := by
 obtain ⟨a,b,c,rfl,h1,h2⟩ := hd
 refine ⟨⟨_,_,_,rfl,?_,fun r hr=>h2 r (List.mem_of_mem_drop (List.mem_of_mem_take hr))⟩,?_⟩
 ·rcases h1 with rfl | h1
  ·left; simp [D.rows]
  ·exact .inr h1
 ·simp [D.sub3,D.to,D.rows,List.map_take,List.map_drop]
end

/-! Numbers. -/
instance : Codec Int where
 sz := 1
 ok r := ∃ n,r = [.int .i64 n]
 dec r := match r with | .int _ n :: _=>n | _=>0
 enc n := [.int .i64 n]
 ok_enc n := ⟨n,rfl⟩
 dec_enc _ := rfl
 len r := by rintro ⟨n,rfl⟩; rfl

/-! Bytes. -/
structure Byte where
 n : Int
deriving DecidableEq

instance : Codec Byte where
 sz := 1
 ok r := ∃ n,r = [.int .u8 n]
 dec r := match r with | .int _ n :: _=>⟨n⟩ | _=>⟨0⟩
 enc n := [.int .u8 n.n]
 ok_enc n := ⟨n.n,rfl⟩
 dec_enc _ := rfl
 len r := by rintro ⟨n,rfl⟩; rfl

instance : Codec Bool where
 sz := 1
 ok r := ∃ b,r = [.bool b]
 dec r := match r with | .bool b :: _=>b | _=>false
 enc b := [.bool b]
 ok_enc b := ⟨b,rfl⟩
 dec_enc _ := rfl
 len r := by rintro ⟨n,rfl⟩; rfl

@[simp] theorem sz_int : Codec.sz Int = 1 := rfl
@[simp] theorem sz_byte : Codec.sz Byte = 1 := rfl
@[simp] theorem sz_bool : Codec.sz Bool = 1 := rfl
@[simp] theorem ok_int (n : Int) : Codec.ok Int [.int .i64 n] := ⟨n,rfl⟩
@[simp] theorem dec_int (n : Int) : (Codec.dec [.int .i64 n] : Int) = n := rfl
@[simp] theorem ok_bool (b : Bool) : Codec.ok Bool [.bool b] := ⟨b,rfl⟩
@[simp] theorem dec_bool (b : Bool) : (Codec.dec [.bool b] : Bool) = b := rfl
@[simp] theorem ok_byte (n : Int) : Codec.ok Byte [.int .u8 n] := ⟨n,rfl⟩

theorem int_cell {d : D} (h : d.Is Int) {i : Nat} (hi : i < (d.to Int).length) : d.getInt i 0 = (d.to Int)[i] ∧ d.HasCell i 0 (.int .i64) := by
 obtain ⟨r,h1,⟨n,rfl⟩,h3⟩ := h.row hi
 rw [h3]
 exact ⟨by simp [D.getInt,D.cellAt,h1],n,by simp [D.cellAt,h1]⟩

theorem bool_cell {d : D} (h : d.Is Bool) {i : Nat} (hi : i < (d.to Bool).length) : d.getBool i 0 = (d.to Bool)[i] ∧ d.HasCell i 0 .bool := by
 obtain ⟨r,h1,⟨n,rfl⟩,h3⟩ := h.row hi
 rw [h3]
 exact ⟨by simp [D.getBool,D.cellAt,h1],n,by simp [D.cellAt,h1]⟩

end Sx
namespace Sx
@[simp] theorem len_slc (h : Hd) (s : Nat) (rows : List (List D)) : (D.slc h s rows).len = rows.length := rfl
@[simp] theorem rows_slc (h : Hd) (s : Nat) (rows : List (List D)) : (D.slc h s rows).rows = rows := rfl
@[simp] theorem sz_slc (h : Hd) (s : Nat) (rows : List (List D)) : (D.slc h s rows).sz = s := rfl
@[simp] theorem hd_slc (h : Hd) (s : Nat) (rows : List (List D)) : (D.slc h s rows).hd = h := rfl
@[simp] theorem append_list {α : Type _} (a b : List α) : List.append a b = a ++ b := rfl
def SRows (α : Type) [Codec α] (rows : List (List D)) (xs : List α) : Prop := (∀ r,r ∈ rows → Codec.ok α r) ∧ rows.map Codec.dec = xs

section
variable {α : Type} [Codec α]
theorem rows_of {d : D} (h : d.Is α) : SRows α d.rows (d.to α) := by
 obtain ⟨a,b,c,rfl,_,h2⟩ := h
 exact ⟨h2,rfl⟩
theorem rows_app {a b : List (List D)} {xs ys : List α} (h : SRows α a xs) (h' : SRows α b ys) : SRows α (List.append a b) (xs ++ ys) := by
 refine ⟨fun r hr=>?_,by simp [h.2,h'.2]⟩
 rcases List.mem_append.1 hr with hr | hr
 ·exact h.1 r hr
 ·exact h'.1 r hr
theorem rows_one {r : List D} {x : α} (h : Codec.ok α r) (h' : Codec.dec r = x) : SRows α [r] [x] :=
 ⟨fun s hs=>by rw [List.mem_singleton.1 hs]; exact h,by simp [h']⟩
theorem rows_len {rows : List (List D)} {xs : List α} (h : SRows α rows xs) : rows.length = xs.length := by rw [← h.2]; simp
theorem is_of {h : Hd} {s : Nat} {rows : List (List D)} {xs : List α} (hs : s = Codec.sz α) (hr : SRows α rows xs) : (D.slc h s rows).Is α ∧ (D.slc h s rows).to α = xs := ⟨is_rows hs hr.1,hr.2⟩
def Stands (α : Type) [Codec α] (X : SV) (xs : List α) : Prop := ∃ d : D,(∀ E,X.den E = d.val) ∧ d.Is α ∧ d.to α = xs ∧ ∀ H,X.Ok H → d.Ok H

theorem stands_nils : Stands α .nils [] := ⟨.slc none 0 [],fun _=>by simp [SV.den,D.val,hval],is_nil _ _,rfl,fun _ _=>.nil 0⟩
theorem stands_dat {d : D} {xs : List α} (h : d.Is α) (h' : d.to α = xs) : Stands α (.dat d) xs := ⟨d,fun _=>by simp [SV.den],h,h',fun _ h=>h.1⟩
theorem stands_like {d : D} {xs : List α} : Stands α (.dat (d.like xs)) xs := stands_dat (D.like_is d xs) (D.like_to d xs)
theorem stands_rows {h : Hd} {s : Nat} {rows : List (List D)} {xs : List α} (hs : s = Codec.sz α) (hr : SRows α rows xs) : Stands α (.dat (.slc h s rows)) xs := stands_dat (is_of hs hr).1 (is_of hs hr).2
theorem stands_self {d : D} (h : d.Is α) : Stands α (.dat d) (d.to α) := stands_dat h rfl
end
theorem nil_rows {H : HV} {d : D} (hok : d.Ok H) (hn : d.isNil = true) : d.rows = [] := by
 cases hok with
 | nil=>rfl
 | slc a c sz rows=>simp [D.isNil,D.hd] at hn
 | _=>rfl
end Sx
end
noncomputable section
namespace Sx
open Go RowKit
structure Rd (β : Type) where
 read : List SV → Option β
 canon : β → List SV
 right : ∀ (H : HV) (E : Env) (args : List SV) (b : β),read args = some b → SV.OkL H args → SV.denL E args = SV.denL E (canon b) ∧ SV.OkL H (canon b)
structure Rd1 (β : Type) where
 read : SV → Option β
 canon : β → SV
 right : ∀ (H : HV) (E : Env) (x : SV) (b : β),read x = some b → x.Ok H → x.den E = (canon b).den E ∧ (canon b).Ok H

def Rd.sp {β : Type} (r : Rd β) (spec : β → SpecR) (args : List SV) : SpecR :=
 match r.read args with
 | some b=>spec b
 | none=>.no

def Rd1.one {α : Type} (a : Rd1 α) : Rd α where
 read l := match l with | [x]=>a.read x | _=>none
 canon b := [a.canon b]
 right H E args b h hok := by
  split at h
  ·obtain ⟨h1,h2⟩ := a.right H E _ b h hok.1
   exact ⟨by simp only [SV.denL,h1],h2,trivial⟩
  ·cases h

def Rd1.two {α β : Type} (a : Rd1 α) (b : Rd1 β) : Rd (α × β) where
 read l := match l with
  | [x,y]=>match a.read x,b.read y with
   | some p,some q=>some (p,q)
   | _,_=>none
  | _=>none
 canon p := [a.canon p.1,b.canon p.2]
 right H E args p h hok := by
  split at h
  ·split at h
   ·rename_i h1 h2
    cases h
    obtain ⟨i1,i2⟩ := a.right H E _ _ h1 hok.1
    obtain ⟨j1,j2⟩ := b.right H E _ _ h2 hok.2.1
    exact ⟨by simp only [SV.denL,i1,j1],i2,j2,trivial⟩
   ·cases h
  ·cases h

def Rd1.three {α β γ : Type} (a : Rd1 α) (b : Rd1 β) (c : Rd1 γ) : Rd (α × β × γ) where
 read l := match l with
  | [x,y,z]=>match a.read x,b.read y,c.read z with
   | some p,some q,some r=>some (p,q,r)
   | _,_,_=>none
  | _=>none
 canon p := [a.canon p.1,b.canon p.2.1,c.canon p.2.2]
 right H E args p h hok := by
  split at h
  ·split at h
   ·rename_i h1 h2 h3
    cases h
    obtain ⟨i1,i2⟩ := a.right H E _ _ h1 hok.1
    obtain ⟨j1,j2⟩ := b.right H E _ _ h2 hok.2.1
    obtain ⟨k1,k2⟩ := c.right H E _ _ h3 hok.2.2.1
    exact ⟨by simp only [SV.denL,i1,j1,k1],i2,j2,k2,trivial⟩
   ·cases h
  ·cases h

def Rd1.four {α β γ δ : Type} (a : Rd1 α) (b : Rd1 β) (c : Rd1 γ) (d : Rd1 δ) : Rd (α × β × γ × δ) where
 read l := match l with
  | [x,y,z,u]=>match a.read x,b.read y,c.read z,d.read u with
   | some p,some q,some r,some s=>some (p,q,r,s)
   | _,_,_,_=>none
  | _=>none
 canon p := [a.canon p.1,b.canon p.2.1,c.canon p.2.2.1,d.canon p.2.2.2]
 right H E args p h hok := by
  split at h
  ·split at h
   ·rename_i h1 h2 h3 h4
    cases h
    obtain ⟨i1,i2⟩ := a.right H E _ _ h1 hok.1
    obtain ⟨j1,j2⟩ := b.right H E _ _ h2 hok.2.1
    obtain ⟨k1,k2⟩ := c.right H E _ _ h3 hok.2.2.1
    obtain ⟨l1,l2⟩ := d.right H E _ _ h4 hok.2.2.2.1
    exact ⟨by simp only [SV.denL,i1,j1,k1,l1],i2,j2,k2,l2,trivial⟩
   ·cases h
  ·cases h
def rdInt : Rd1 Int where
 read x := match x with | .int .i64 n=>some n | _=>none
 canon n := .int .i64 n
 right H E x b h hok := by
  split at h
  ·cases h; exact ⟨rfl,trivial⟩
  ·cases h
def rdBool : Rd1 Bool where
 read x := match x with | .bool b=>some b | .lb b=>some b | _=>none
 canon b := .bool b
 right H E x b h hok := by
  split at h
  ·cases h; exact ⟨rfl,trivial⟩
  ·cases h; exact ⟨by simp [SV.den],trivial⟩
  ·cases h
def rdD : Rd1 D where
 read x := x.d?
 canon d := .dat d
 right H E x d h hok := by
  obtain ⟨h1,h2⟩ := SV.d?_spec (E := E) h hok
  refine ⟨by simpa [SV.den] using h1,h2,?_⟩
  cases x <;> simp [SV.d?] at h
  ·subst h; exact ⟨_,_,_,rfl⟩
  ·subst h; exact hok.2
def RetS (w : World) (H : HV) (v : SV) : Value → World → Prop := fun u w'=>∃ H',After w H w' H' ∧ ∀ E,u = v.den E
def RetD (w : World) (H : HV) (g : (Nat → D) → SV) : Value → World → Prop := fun u w'=>∃ H',After w H w' H' ∧ ∃ ds,(∀ E,u = (g ds).den E) ∧ (g ds).Ok H'

section
variable {P : Program} {w : World} {H : HV}

theorem ret_S {v v' : SV} (h : ∀ E E',v.den E = v'.den E') : (Tree.ret v).holds P ⟨w,H⟩ (RetS w H v') :=
 ⟨rfl,fun E H' _ g _=>⟨H',after_good g,fun E'=>h E E'⟩⟩

theorem ret_int {k : IntKind} {a b : Int} (h : a = b) : (Tree.ret (.int k a)).holds P ⟨w,H⟩ (RetS w H (.int k b)) := by
 subst h; exact ret_S fun _ _=>rfl

theorem ret_bool {a b : Bool} (h : a = b) : (Tree.ret (.bool a)).holds P ⟨w,H⟩ (RetS w H (.bool b)) := by
 subst h; exact ret_S fun _ _=>rfl

theorem ret_lb {a b : Bool} (h : a = b) : (Tree.ret (.lb a)).holds P ⟨w,H⟩ (RetS w H (.bool b)) := by
 subst h; exact ret_S fun _ _=>by simp [SV.den]

theorem ret_D {v : SV} {g : (Nat → D) → SV} (ds : Nat → D) (h : ∀ E E',v.den E = (g ds).den E') (hok : ∀ H',v.Ok H' → (g ds).Ok H') : (Tree.ret v).holds P ⟨w,H⟩ (RetD w H g) :=
 ⟨rfl,fun E H' _ gd hv=>⟨H',after_good gd,ds,fun E'=>h E E',hok H' hv⟩⟩

theorem StkRun.mono {X : CtxX} {R R' : Value → World → Prop} (hr : ∀ v w,R v w → R' v w) : ∀ {r : List CFrm} {c : CFrm} {w : World},StkRun P X c r w R → StkRun P X c r w R'
 | [],_,_,h=>CFrm.run_mono h hr
 | _ :: _,_,_,h=>CFrm.run_mono h fun _ _ h'=>StkRun.mono hr h'

theorem Runs.mono {C : Ctx} {c : Conf} {R R' : Value → World → Prop} (h : Runs P C c R) (hr : ∀ v w,R v w → R' v w) : Runs P C c R' :=
 fun E H w g ok=>StkRun.mono hr (h E H w g ok)

theorem law_in {f : FuncId} {β : Type} (r : Rd β) {spec : β → SpecR} (hb : Bodied P f = true)
  (h : ∀ (H : HV) (w : World) (b : β),SV.OkL H (r.canon b) → match spec b with
   | .scalar ps v=>(∀ p,p ∈ ps → p) → Runs P ⟨w,H⟩ (entry P f (r.canon b)) (RetS w H v)
   | .data ps g=>(∀ p,p ∈ ps → p) → Runs P ⟨w,H⟩ (entry P f (r.canon b)) (RetD w H g)
   | .no=>True) : Law P f (r.sp spec) := by
 refine ⟨hb,fun H E args hargs=>?_⟩
 unfold Rd.sp
 cases hr : r.read args with
 | none=>trivial
 | some b =>
  simp only
  obtain ⟨h1,h2⟩ := r.right H E args b hr hargs
  rw [h1]
  cases hs : spec b with
  | no=>trivial
  | scalar ps v =>
   intro hp
   refine pcall hb h2 E fun w=>?_
   have := h H w b h2
   rw [hs] at this
   exact (this hp).mono fun u w2 ⟨H2,ha,hu⟩=>⟨H2,ha,hu E⟩
  | data ps g =>
   intro hp
   refine pcall hb h2 E fun w=>?_
   have := h H w b h2
   rw [hs] at this
   exact (this hp).mono fun u w2 ⟨H2,ha,ds,hu,hok⟩=>⟨H2,ha,ds,hu E,hok⟩

@[simp] theorem holds_need {C : Ctx} {R : Value → World → Prop} {p : Prop} {t : Tree} : (Tree.need p t).holds P C R ↔ p ∧ t.holds P C R := Iff.rfl
@[simp] theorem holds_all {C : Ctx} {R : Value → World → Prop} {f : (Nat → Nat → D) → Tree} : (Tree.all f).holds P C R ↔ ∀ hs,(f hs).holds P C R := Iff.rfl
end

theorem wrap_succ {j n : Nat} (h : j < n) (hn : n ≤ 1048576) : IntKind.i64.wrap ((j : Int) + 1) = ((j + 1 : Nat) : Int) := by
 rw [wrap64 (by omega) (by omega)]; simp

theorem getD_lt {xs : List Int} {j : Nat} (h : j < xs.length) : xs.getD j 0 = xs[j] := by simp [h]

theorem take_has {xs : List Int} {j : Nat} (h : j < xs.length) (n : Int) : (xs.take (j + 1)).contains n = ((xs.take j).contains n || (xs[j] == n)) := by
 rw [List.take_succ_eq_append_getElem h]
 simp only [List.contains_eq_any_beq,List.any_append,List.any_cons,List.any_nil,Bool.or_false]
 congr 1
 exact Bool.beq_comm
theorem int_at {d : D} (hd : d.Is Int) {j : Nat} (hj : j < (d.to Int).length) :
  (0 ≤ (j : Int) ∧ (j : Int) < (d.len : Int) ∧ d.sz = 1) ∧ d.HasCell (Int.toNat j) 0 (.int .i64) ∧ d.getInt (Int.toNat j) 0 = (d.to Int)[j] := by
 obtain ⟨h1,h2⟩ := int_cell hd hj
 exact ⟨⟨by omega,by rw [D.Is.length (α := Int)]; omega,by rw [hd.size hj]; rfl⟩,h2,h1⟩

end Sx
end
noncomputable section
namespace Sx
open Go RowKit
inductive TS where
 | int (k : IntKind)
 | bool
 | slc (e : TS)
 | st (fs : List TS)
 | arr (n : Nat) (e : TS)

mutual
def TS.sz : TS → Nat
 | .int _=>1
 | .bool=>1
 | .slc _=>1
 | .st fs=>TS.szL fs
 | .arr n e=>n * e.sz
def TS.szL : List TS → Nat
 | []=>0
 | f :: r=>f.sz + TS.szL r
end

mutual
def TS.fits (P : Program) : TS → TypeId → Bool
 | .int k,t=>match P.underlying t with | some (.int k')=>k' == k | _=>false
 | .bool,t=>match P.underlying t with | some .bool=>true | _=>false
 | .slc e,t=>match P.underlying t with | some (.slice e')=>e.fits P e' && P.cellsOf e' == e.sz && decide (0 < e.sz) | _=>false
 | .st fs,t=>match P.underlying t with | some (.struct gs)=>P.cellsOf t == TS.szL fs && TS.fitsL P fs gs.toList 0 | _=>false
 | .arr n e,t=>match P.underlying t with | some (.array n' e')=>n' == n && P.cellsOf t == n * e.sz && P.cellsOf e' == e.sz && e.fits P e' | _=>false
def TS.fitsL (P : Program) : List TS → List Field → Nat → Bool
 | [],[],_=>true
 | f :: fs,g :: gs,off=>g.offset == off && P.cellsOf g.type == f.sz && f.fits P g.type && TS.fitsL P fs gs (off + f.sz)
 | _,_,_=>false
end

mutual
def TS.Sh : TS → List D → Prop
 | .int k,ds=>∃ n,ds = [.int k n] ∧ (Lit.int k n).wf = true
 | .bool,ds=>∃ b,ds = [.bool b]
 | .slc e,ds=>∃ h s rows,ds = [.slc h s rows] ∧ (rows = [] ∨ s = e.sz) ∧ rows.length ≤ maxLen ∧ ∀ r,r ∈ rows → e.Sh r
 | .st fs,ds=>TS.ShL fs ds
 | .arr n e,ds=>∃ l : List (List D),ds = l.flatten ∧ l.length = n ∧ ∀ r,r ∈ l → e.Sh r
def TS.ShL : List TS → List D → Prop
 | [],ds=>ds = []
 | f :: r,ds=>∃ a b,ds = a ++ b ∧ f.Sh a ∧ TS.ShL r b
end
def allOf (w : World) : HV := fun b o=>w.cell? ⟨b,o,none⟩
theorem allOf_in (w : World) : InMem (allOf w) w := fun _ _ _ h=>h

section
variable {H : Type} {enc : TypeId × Value → H} {P : Program} {w : World} {base : Nat} {spare : Nat → Bool} {held : Bool}
def Gives (w : World) (ts : TS) (cs : List Value) : Prop := ∃ ds : List D,ds.map D.val = cs ∧ (∀ d,d ∈ ds → d.Ok (allOf w)) ∧ ts.Sh ds ∧ ds.length = ts.sz
def GivesL (w : World) (ts : List TS) (cs : List Value) : Prop := ∃ ds : List D,ds.map D.val = cs ∧ (∀ d,d ∈ ds → d.Ok (allOf w)) ∧ TS.ShL ts ds ∧ ds.length = TS.szL ts

theorem gives_slc {e : TS} {t e' : TypeId} (ht : P.underlying t = some (.slice e')) (hc : P.cellsOf e' = e.sz) (h0 : 0 < e.sz) {fuel : Nat} {cs : List Value} {x : DataW H × List MemPlace}
    (h : DataW.trod enc P w base spare held fuel t cs = some x)
    (ih : ∀ n cs x,DataW.trod enc P w base spare held n e' cs = some x → Gives w e cs) : Gives w (.slc e) cs := by
  rcases Deep.open_slice ht h with ⟨rfl,_⟩ | ⟨a,len,cap,m,n,Df,Pl,rfl,hb,hl,hm,hmm,rfl,hx⟩
  · exact ⟨[.slc none 0 []],by simp [D.val,hval],by simp; exact .nil 0,⟨none,0,[],rfl,.inl rfl,Nat.zero_le _,by simp⟩,by simp [TS.sz]⟩
  · have hlm : len ≤ m := by rw [hmm]; split <;> omega
    obtain ⟨f,hf⟩ := Deep.choose_lt (α := List D) (n := len) (p := fun i ds=>(w.cells? base (a.add (i * P.cellsOf e')) (P.cellsOf e') = some (ds.map D.val)) ∧ (∀ d,d ∈ ds → d.Ok (allOf w)) ∧ e.Sh ds ∧ ds.length = e.sz) (fun i hi=>by
      obtain ⟨cs',h1,h2⟩ := hx i (by omega)
      obtain ⟨ds,rfl,h3⟩ := ih _ _ _ h2
      exact ⟨ds,h1,h3⟩)
    have hcell : ∀ i j x,i < len → (f i)[j]? = some x → w.cell? ((a.add (i * e.sz)).add j) = some x.val := by
      intro i j x hi hj
      obtain ⟨h1,_,_,h4⟩ := hf i hi
      obtain ⟨_,_,h2⟩ := World.cells?_some h1
      have hjl : j < P.cellsOf e' := by
        rw [hc,← h4]
        exact (List.getElem?_eq_some_iff.1 hj).1
      rw [← hc,h2 j hjl,List.getElem?_map,hj]; rfl
    have hspot : 0 < len → a.spot = none := by
      intro hl0
      obtain ⟨_,_,_,h4⟩ := hf 0 hl0
      have := hcell 0 0 _ hl0 (List.getElem?_eq_getElem (by omega : 0 < (f 0).length))
      simp only [Nat.zero_mul,Deep.add_add] at this
      simpa [Addr.add] using World.cell?_spot this
    have hadd : ∀ k,0 < len → a.add k = ⟨a.block,a.off + k,none⟩ := fun k hl0=>add_none (hspot hl0) k
    refine ⟨[.slc (some (a,cap)) e.sz ((List.range len).map f)],by simp [D.val,hval],?_,?_,by simp [TS.sz]⟩
    · intro d hd
      rw [List.mem_singleton.1 hd]
      refine .slc a cap e.sz _ (fun hne => hspot (by rcases Nat.eq_zero_or_pos len with h | h; · subst h; simp at hne
                                                     · exact h)) (by simpa using hl) ?_ ?_ ?_
      · intro r hr
        obtain ⟨i,hi,rfl⟩ := List.mem_map.1 hr
        exact (hf i (List.mem_range.1 hi)).2.2.2
      · intro i j r x hr hj
        rw [List.getElem?_map] at hr
        have hi : i < len := by
          rcases Nat.lt_or_ge i len with h | h
          · exact h
          · simp [List.getElem?_range,h] at hr
        simp [List.getElem?_range,hi] at hr
        subst hr
        have := hcell i j x hi hj
        rw [Deep.add_add,hadd _ (by omega)] at this
        simpa [allOf,Nat.add_assoc] using this
      · intro r hr
        obtain ⟨i,hi,rfl⟩ := List.mem_map.1 hr
        exact (hf i (List.mem_range.1 hi)).2.1
    · simp only [TS.Sh]
      refine ⟨_,_,_,rfl,.inr rfl,by simp; omega,fun r hr=>?_⟩
      obtain ⟨i,hi,rfl⟩ := List.mem_map.1 hr
      exact (hf i (List.mem_range.1 hi)).2.2.1

theorem mapM_some_mem {α β : Type} {f : α → Option β} : ∀ (l : List α) (xs : List β),l.mapM f = some xs → ∀ i,i ∈ l → ∃ y,f i = some y
 | [],_,_,i,h=>by cases h
 | a :: l,xs,h,i,hi=>by
  simp only [List.mapM_cons,Option.bind_eq_bind,Option.bind_eq_some_iff] at h
  obtain ⟨y,hy,ys,hys,_⟩ := h
  rcases List.mem_cons.1 hi with rfl | hi
  ·exact ⟨y,hy⟩
  ·exact mapM_some_mem l ys hys i hi
theorem trod_arr {t e : TypeId} {m fuel : Nat} {cs : List Value} {x : DataW H × List MemPlace} (ht : P.underlying t = some (.array m e)) (h : DataW.trod enc P w base spare held fuel t cs = some x) :
  ∃ n,cs.length = P.cellsOf t ∧ ∀ i,i < m → ∃ y,DataW.trod enc P w base spare held n e ((cs.drop (i * P.cellsOf e)).take (P.cellsOf e)) = some y := by
 cases fuel with
 | zero=>simp [DataW.trod] at h
 | succ n =>
  unfold DataW.trod at h
  rw [ht] at h
  simp only at h
  split at h
  ·rename_i hl
   refine ⟨n,hl,fun i hi=>?_⟩
   cases hm : (List.range m).mapM fun i=>DataW.trod enc P w base spare held n e ((cs.drop (i * P.cellsOf e)).take (P.cellsOf e)) with
   | none=>rw [hm] at h; cases h
   | some xs =>
    have := mapM_some_mem (List.range m) xs hm i (List.mem_range.2 hi)
    exact this
  ·cases h

theorem pieces {α : Type} (s : Nat) : ∀ (n : Nat) (cs : List α),cs.length = n * s → ((List.range n).map fun i=>(cs.drop (i * s)).take s).flatten = cs
 | 0,cs,h=>by simp at h; subst h; rfl
 | n + 1,cs,h=>by
  rw [List.range_succ_eq_map,List.map_cons,List.flatten_cons,List.map_map]
  have := pieces s n (cs.drop s) (by rw [List.length_drop,h,Nat.add_mul]; omega)
  have e : ((fun i=>(cs.drop (i * s)).take s) ∘ Nat.succ) = fun i=>((cs.drop s).drop (i * s)).take s := by
   funext i; simp only [Function.comp,List.drop_drop]; congr 2; simp only [Nat.succ_eq_add_one]; rw [Nat.add_mul]; omega
  rw [e,this]
  simp

mutual
theorem gives (ts : TS) (t : TypeId) (hfit : ts.fits P t = true) (fuel : Nat) (cs : List Value) (x : DataW H × List MemPlace)
  (h : DataW.trod enc P w base spare held fuel t cs = some x) : Gives w ts cs := by
 match ts,hfit with
 | .int k,hfit =>
  unfold TS.fits at hfit
  split at hfit
  ·rename_i k' ht
   simp only [beq_iff_eq] at hfit
   subst hfit
   obtain ⟨n,rfl,_,hw⟩ := DataW.trod_int ht h
   exact ⟨[.int k' n],rfl,by simp; exact .int _ _,by simp [TS.Sh,hw],by simp [TS.sz]⟩
  ·cases hfit
 | .bool,hfit =>
  unfold TS.fits at hfit
  split at hfit
  ·rename_i ht
   obtain ⟨n,rfl,_⟩ := DataW.trod_bool ht h
   exact ⟨[.bool n],rfl,by simp; exact .bool _,by simp [TS.Sh],by simp [TS.sz]⟩
  ·cases hfit
 | .slc e,hfit =>
  unfold TS.fits at hfit
  split at hfit
  ·rename_i e' ht
   simp only [Bool.and_eq_true,beq_iff_eq,decide_eq_true_eq] at hfit
   exact gives_slc ht hfit.1.2 hfit.2 h fun n cs x h'=>gives e e' hfit.1.1 n cs x h'
  ·cases hfit
 | .st fs,hfit =>
  unfold TS.fits at hfit
  split at hfit
  ·rename_i gs ht
   simp only [Bool.and_eq_true,beq_iff_eq] at hfit
   obtain ⟨xs,n,_,_,hlen,hxl,hfld⟩ := DataW.trod_struct ht h
   have := givesL fs gs.toList 0 hfit.2 n cs (by simpa using hlen.trans hfit.1) (fun g hg=>by
    obtain ⟨i,hi,hgi⟩ := List.mem_iff_getElem.1 hg
    have h1 := hfld i g (by simpa using (Array.getElem?_eq_some_iff.2 ⟨by simpa using hi,by simpa using hgi⟩))
    rw [List.getElem?_eq_getElem (by rw [hxl]; simpa using hi)] at h1
    exact ⟨_,h1⟩)
   obtain ⟨ds,h1,h2,h3,h4⟩ := this
   exact ⟨ds,by simpa using h1,h2,by simpa [TS.Sh] using h3,by simpa [TS.sz] using h4⟩
  ·cases hfit
 | .arr m e,hfit =>
  unfold TS.fits at hfit
  split at hfit
  ·rename_i m' e' ht
   simp only [Bool.and_eq_true,beq_iff_eq] at hfit
   obtain ⟨⟨⟨rfl,hf1⟩,hf2⟩,hf3⟩ := hfit
   obtain ⟨n,hlen,hx⟩ := trod_arr ht h
   obtain ⟨f,hf⟩ := Deep.choose_lt (α := List D) (n := m') (p := fun i ds=>ds.map D.val = (cs.drop (i * P.cellsOf e')).take (P.cellsOf e') ∧ (∀ d,d ∈ ds → d.Ok (allOf w)) ∧ e.Sh ds ∧ ds.length = e.sz) (fun i hi=>by
    obtain ⟨y,hy⟩ := hx i hi
    exact gives e e' hf3 n _ y hy)
   refine ⟨((List.range m').map f).flatten,?_,?_,?_,?_⟩
   ·rw [← pieces (P.cellsOf e') m' cs (by rw [hlen,hf1,hf2]),List.map_flatten,List.map_map]
    congr 1
    exact List.map_congr_left fun i hi=>(hf i (List.mem_range.1 hi)).1
   ·intro d hd
    obtain ⟨r,hr,hd⟩ := List.mem_flatten.1 hd
    obtain ⟨i,hi,rfl⟩ := List.mem_map.1 hr
    exact (hf i (List.mem_range.1 hi)).2.1 d hd
   ·simp only [TS.Sh]
    refine ⟨_,rfl,by simp,fun r hr=>?_⟩
    obtain ⟨i,hi,rfl⟩ := List.mem_map.1 hr
    exact (hf i (List.mem_range.1 hi)).2.2.1
   ·rw [List.length_flatten,List.map_map]
    have : (List.range m').map (List.length ∘ f) = List.replicate m' e.sz := by
     rw [List.eq_replicate_iff]
     refine ⟨by simp,fun b hb=>?_⟩
     obtain ⟨i,hi,rfl⟩ := List.mem_map.1 hb
     exact (hf i (List.mem_range.1 hi)).2.2.2
    rw [this]; simp [TS.sz]
  ·cases hfit
theorem givesL (ts : List TS) (gs : List Field) (off : Nat) (hfit : TS.fitsL P ts gs off = true) (n : Nat) (cs : List Value) (hlen : cs.length = off + TS.szL ts)
  (h : ∀ g,g ∈ gs → ∃ x,DataW.trod enc P w base spare held n g.type ((cs.drop g.offset).take (P.cellsOf g.type)) = some x) : GivesL w ts (cs.drop off) := by
 match ts,gs,hfit with
 | [],[],hfit =>
  refine ⟨[],?_,by simp,by simp [TS.ShL],by simp [TS.szL]⟩
  simp only [TS.szL] at hlen
  rw [List.drop_eq_nil_of_le (by omega)]; rfl
 | [],_ :: _,hfit=>simp [TS.fitsL] at hfit
 | _ :: _,[],hfit=>simp [TS.fitsL] at hfit
 | f :: fs,g :: gs,hfit =>
  simp only [TS.fitsL,Bool.and_eq_true,beq_iff_eq] at hfit
  obtain ⟨⟨⟨h1,h2⟩,h3⟩,h4⟩ := hfit
  simp only [TS.szL] at hlen
  obtain ⟨x,hx⟩ := h g (by simp)
  rw [h1,h2] at hx
  obtain ⟨d1,e1,o1,s1,l1⟩ := gives f g.type h3 n _ x hx
  obtain ⟨d2,e2,o2,s2,l2⟩ := givesL fs gs (off + f.sz) h4 n cs (by omega) (fun g' hg'=>h g' (by simp [hg']))
  refine ⟨d1 ++ d2,?_,?_,?_,?_⟩
  ·rw [List.map_append,e1,e2,← List.drop_drop,List.take_append_drop]
  ·intro d hd
   rcases List.mem_append.1 hd with hd | hd
   ·exact o1 d hd
   ·exact o2 d hd
  ·exact ⟨d1,d2,rfl,s1,s2⟩
  ·simp [TS.szL,l1,l2]
end




theorem arg_slc {r : Reach} {b0 : Nat} {t e' : TypeId} {e : TS} {v : Value} {d : DataW H} {p : List MemPlace} (ht : P.underlying t = some (.slice e')) (hfit : TS.fits P (.slc e) t = true)
  (hv : Value.okWide P w r b0 t v) (h : DataW.Trod enc P w base spare held t v d p) :
  ∃ d : D,v = d.val ∧ d.Ok (allOf w) ∧ d.IsSlc ∧ TS.Sh (.slc e) [d] := by
 obtain ⟨a,len,cap,rfl⟩ := WideShapes.okWide_slice ht hv
 obtain ⟨fuel,hf⟩ := h
 obtain ⟨ds,h1,h2,h3,h4⟩ := gives (.slc e) t hfit fuel _ _ hf
 simp only [TS.sz] at h4
 obtain ⟨x,rfl⟩ := List.length_eq_one_iff.1 h4
 simp only [List.map_cons,List.map_nil,Value.cells] at h1
 refine ⟨x,by simpa using h1.symm,h2 x (by simp),?_,h3⟩
 simp only [TS.Sh] at h3
 obtain ⟨a,b,c,h3,_⟩ := h3
 exact ⟨a,b,c,by simpa using h3⟩
end
theorem law_calls {P : Program} {f : FuncId} {spec : List SV → SpecR} (h : Law P f spec) {w : World} {args : List SV} (hok : SV.OkL (allOf w) args)
  (hs : ∃ ps,spec args = .scalar ps (.lb true) ∧ ∀ p,p ∈ ps → p) :
  Calls P f (SV.denL env0 args).toArray w fun e w'=>e = .returned (.bool true) ∧ Below w.heap.size w w' := by
 obtain ⟨ps,hs,hp⟩ := hs
 have h2 := h.2 (allOf w) env0 args hok
 rw [hs] at h2
 exact Calls.mono (h2 hp w (allOf_in w)) fun e w' ⟨u,H',he,ha,hu⟩=>⟨by rw [he,hu]; simp [SV.den],ha.below⟩
end Sx
end
noncomputable section
namespace Sx
structure Sec where
 b0 : Int
 b1 : Int
 b2 : Int
 b3 : Int
 b4 : Int
 b5 : Int
 b6 : Int
 b7 : Int
deriving DecidableEq
structure Wt where
 vol : Int
 start : Int
 data : List Sec
deriving DecidableEq
structure Ev where
 kind : Int
 write : Int
deriving DecidableEq
structure Hist where
 sizes : List Int
 writes : List Wt
 events : List Ev
deriving DecidableEq
def badSize (n : Int) : Bool := decide (n < 1) || decide (n > 4096)
def sizesErr (l : List Int) : Int := if l.length < 1 ∨ l.length > 8 then 6 else if l.any badSize = true then 2 else 0
def fitsErr (s : List Int) (w : Wt) : Int :=
 if w.vol < 0 ∨ w.vol ≥ s.length then 7 else if w.data.length = 0 then 1
 else if w.start < 0 ∨ w.start > s.getD w.vol.toNat 0 - w.data.length then 2 else 0
def firstErr (s : List Int) : List Wt → Int
 | []=>0
 | w :: r=>if fitsErr s w ≠ 0 then fitsErr s w else firstErr s r
theorem firstErr_cons (s : List Int) (w : Wt) (r : List Wt) : firstErr s (w :: r) = if fitsErr s w ≠ 0 then fitsErr s w else firstErr s r := rfl
theorem firstErr_append (s : List Int) (a b : List Wt) : firstErr s (a ++ b) = if firstErr s a ≠ 0 then firstErr s a else firstErr s b := by
 induction a with
 | nil=>simp [firstErr]
 | cons x r ih =>
  rw [List.cons_append,firstErr_cons,firstErr_cons]
  by_cases h : fitsErr s x ≠ 0
  ·rw [if_pos h,if_pos h,if_pos h]
  ·rw [if_neg h,if_neg h]; exact ih
theorem firstErr_take {s : List Int} {l : List Wt} {i : Nat} (hi : i < l.length) : firstErr s (l.take (i + 1)) = if firstErr s (l.take i) ≠ 0 then firstErr s (l.take i) else fitsErr s l[i] := by
 rw [List.take_succ_eq_append_getElem hi,firstErr_append]
 congr 1
 simp only [firstErr]
 split
 ·rfl
 ·rename_i h; simp only [ne_eq,Decidable.not_not] at h; exact h.symm
theorem firstErr_of_take {s : List Int} {l : List Wt} {i : Nat} (h : firstErr s (l.take i) ≠ 0) : firstErr s l = firstErr s (l.take i) := by
 conv=>lhs; rw [← List.take_append_drop i l]
 rw [firstErr_append,if_pos h]
structure Tl where
 issued : List Int
 acked : List Int
deriving DecidableEq
def evStep (n : Nat) (i : Int) (t : Tl) (e : Ev) : Int × Tl :=
 if e.kind = 0 then (if e.write ≠ t.issued.length ∨ e.write ≥ n then (3,t) else (0,⟨t.issued ++ [i],t.acked ++ [-1]⟩))
 else if e.kind = 1 then (if e.write < 0 ∨ e.write ≥ t.issued.length then (7,t) else if t.acked.getD e.write.toNat 0 ≥ 0 then (8,t) else (0,⟨t.issued,t.acked.set e.write.toNat i⟩))
 else (3,t)
def runEv (n : Nat) (l : List Ev) : Nat → Int × Tl
 | 0=>(0,⟨[],[]⟩)
 | i + 1=>if (runEv n l i).1 ≠ 0 then runEv n l i else match l[i]? with
  | some e=>evStep n i (runEv n l i).2 e
  | none=>runEv n l i
def zTl : Tl := ⟨[],[]⟩
def checkH (h : Hist) : Int × Tl :=
 if sizesErr h.sizes ≠ 0 then (sizesErr h.sizes,zTl)
 else if h.writes.length > 4096 then (6,zTl)
 else if firstErr h.sizes h.writes ≠ 0 then (firstErr h.sizes h.writes,zTl)
 else if (runEv h.writes.length h.events h.events.length).1 ≠ 0 then ((runEv h.writes.length h.events h.events.length).1,zTl)
 else if (runEv h.writes.length h.events h.events.length).2.issued.length < h.writes.length then (3,zTl)
 else (0,(runEv h.writes.length h.events h.events.length).2)
def atEv : List Ev → Ev → Int
 | [],_=>-1
 | x :: r,e=>if x = e then 0 else if atEv r e < 0 then -1 else atEv r e + 1
theorem atEv_nil (e : Ev) : atEv [] e = -1 := rfl
theorem atEv_cons (x : Ev) (r : List Ev) (e : Ev) : atEv (x :: r) e = if x = e then 0 else if atEv r e < 0 then -1 else atEv r e + 1 := rfl
theorem atEv_cases (l : List Ev) (e : Ev) : (atEv l e = -1 ∧ e ∉ l) ∨ (0 ≤ atEv l e ∧ atEv l e < l.length ∧ e ∈ l) := by
 induction l with
 | nil=>exact .inl ⟨rfl,by simp⟩
 | cons x r ih =>
  rw [atEv_cons]
  by_cases h : x = e
  ·right; subst h; rw [if_pos rfl]; simp only [List.length_cons]; exact ⟨Int.le_refl _,by omega,List.mem_cons_self⟩
  ·rw [if_neg h]
   rcases ih with ⟨h1,h2⟩ | ⟨h1,h2,h3⟩
   ·left
    rw [if_pos (by omega)]
    exact ⟨rfl,fun hm=>(List.mem_cons.1 hm).elim (fun he=>h he.symm) h2⟩
   ·right
    rw [if_neg (by omega)]
    simp only [List.length_cons]
    exact ⟨by omega,by omega,List.mem_cons_of_mem _ h3⟩
theorem atEv_append (a b : List Ev) (e : Ev) : atEv (a ++ b) e = if atEv a e < 0 then (if atEv b e < 0 then -1 else atEv b e + a.length) else atEv a e := by
 induction a with
 | nil =>
  rw [List.nil_append,atEv_nil,if_pos (by decide)]
  have := atEv_cases b e
  split
  ·omega
  ·simp
 | cons x r ih =>
  rw [List.cons_append,atEv_cons,atEv_cons]
  by_cases h : x = e
  ·rw [if_pos h,if_pos h,if_neg (by omega)]
  ·rw [if_neg h,if_neg h,ih]
   have h1 := atEv_cases r e
   have h2 := atEv_cases b e
   simp only [List.length_cons]
   generalize atEv r e = p at h1 ⊢
   generalize atEv b e = q at h2 ⊢
   by_cases hp : p < 0
   ·simp only [if_pos hp]
    by_cases hq : q < 0
    ·simp only [if_pos hq]; simp
    ·simp only [if_neg hq]
     rw [if_neg (by omega)]
     rw [if_pos (by decide)]
     omega
   ·simp only [if_neg hp]
    rw [if_neg (by omega)]
theorem atEv_take {l : List Ev} {i : Nat} (hi : i < l.length) (e : Ev) : atEv (l.take (i + 1)) e = if atEv (l.take i) e < 0 then (if l[i] = e then (i : Int) else -1) else atEv (l.take i) e := by
 have h1 : atEv [l[i]] e = if l[i] = e then 0 else -1 := by
  rw [atEv_cons]
  by_cases h : l[i] = e
  ·rw [if_pos h,if_pos h]
  ·rw [if_neg h,if_neg h,if_pos (by rw [atEv_nil]; decide)]
 rw [List.take_succ_eq_append_getElem hi,atEv_append,h1]
 have hl : ((l.take i).length : Int) = i := by rw [List.length_take]; omega
 rw [hl]
 by_cases h : l[i] = e
 ·simp [if_pos h]
 ·simp [if_neg h]
structure TlOk (n : Nat) (l : List Ev) (t : Tl) : Prop where
 len : t.acked.length = t.issued.length
 le : t.issued.length ≤ n
 iss : ∀ w : Nat,(h : w < t.issued.length) → t.issued[w] = atEv l ⟨0,w⟩ ∧ 0 ≤ t.issued[w]
 not : ∀ w : Int,(w < 0 ∨ (t.issued.length : Int) ≤ w) → atEv l ⟨0,w⟩ = -1 ∧ atEv l ⟨1,w⟩ = -1
 ack : ∀ w : Nat,(h : w < t.acked.length) → t.acked[w] = atEv l ⟨1,w⟩
 kind : ∀ e,e ∈ l → (e.kind = 0 ∨ e.kind = 1) ∧ 0 ≤ e.write ∧ e.write < t.issued.length
theorem evStep_ok {n : Nat} {l : List Ev} {i : Nat} (hi : i < l.length) {t : Tl} (h : TlOk n (l.take i) t) (h0 : (evStep n i t l[i]).1 = 0) : TlOk n (l.take (i + 1)) (evStep n i t l[i]).2 := by
 have hat := atEv_take hi
 have hmem : ∀ e,e ∈ l.take (i + 1) → e ∈ l.take i ∨ e = l[i] := fun e he=>by
  rw [List.take_succ_eq_append_getElem hi] at he
  rcases List.mem_append.1 he with he | he
  ·exact .inl he
  ·exact .inr (List.mem_singleton.1 he)
 have hneg : ∀ e,atEv (l.take i) e < 0 → atEv (l.take i) e = -1 := fun e he=>by
  rcases atEv_cases (l.take i) e with ⟨h1,_⟩ | ⟨h1,_⟩
  ·exact h1
  ·omega
 generalize he : l[i] = e at *
 obtain ⟨k,w⟩ := e
 unfold evStep at h0 ⊢
 simp only at h0 ⊢
 by_cases hk : k = 0
 ·subst hk
  rw [if_pos rfl] at h0 ⊢
  by_cases hc : w ≠ t.issued.length ∨ w ≥ n
  ·rw [if_pos hc] at h0; exact absurd h0 (by simp)
  ·rw [if_neg hc]
   have hw : w = t.issued.length := by omega
   subst hw
   have h1 := (h.not t.issued.length (.inr (Int.le_refl _)))
   have hsame : ∀ e,e ≠ ⟨0,t.issued.length⟩ → atEv (l.take (i + 1)) e = atEv (l.take i) e := fun e hne=>by
    rw [hat]
    split
    ·rename_i hl
     rw [if_neg (fun e'=>hne e'.symm),hneg e hl]
    ·rfl
   have hnew : atEv (l.take (i + 1)) ⟨0,t.issued.length⟩ = i := by rw [hat,h1.1,if_pos (by decide),if_pos rfl]
   refine ⟨by simp [h.len],by simp; omega,fun x hx=>?_,fun x hx=>?_,fun x hx=>?_,fun e hm=>?_⟩
   ·simp only [List.length_append,List.length_singleton] at hx
    by_cases hxl : x < t.issued.length
    ·rw [List.getElem_append_left hxl,hsame _ (by intro e'; cases e'; omega)]
     exact h.iss x hxl
    ·have : x = t.issued.length := by omega
     subst this
     rw [List.getElem_append_right (Nat.le_refl _)]
     simp only [Nat.sub_self,List.getElem_cons_zero]
     exact ⟨hnew.symm,by omega⟩
   ·simp only [List.length_append,List.length_singleton] at hx
    have := h.not x (by omega)
    rw [hsame _ (by intro e'; cases e'; omega),hsame _ (by intro e'; cases e')]
    exact this
   ·simp only [List.length_append,List.length_singleton] at hx
    rw [hsame _ (by intro e'; cases e')]
    by_cases hxl : x < t.acked.length
    ·rw [List.getElem_append_left hxl]; exact h.ack x hxl
    ·have : x = t.acked.length := by omega
     subst this
     rw [List.getElem_append_right (Nat.le_refl _)]
     simp only [Nat.sub_self,List.getElem_cons_zero]
     rw [h.len]; exact h1.2.symm
   ·simp only [List.length_append,List.length_singleton]
    rcases hmem e hm with hm | rfl
    ·have := h.kind e hm; exact ⟨this.1,this.2.1,by omega⟩
    ·exact ⟨.inl rfl,by simp only; omega,by simp only; omega⟩
 ·rw [if_neg hk] at h0 ⊢
  by_cases hk1 : k = 1
  ·subst hk1
   rw [if_pos rfl] at h0 ⊢
   by_cases hc : w < 0 ∨ w ≥ t.issued.length
   ·rw [if_pos hc] at h0; exact absurd h0 (by simp)
   ·rw [if_neg hc] at h0 ⊢
    obtain ⟨y,rfl⟩ := Int.eq_ofNat_of_zero_le (show 0 ≤ w by omega)
    have hy : y < t.acked.length := by have := h.len; omega
    by_cases ha : t.acked.getD (Int.toNat (y : Int)) 0 ≥ 0
    ·rw [if_pos ha] at h0; exact absurd h0 (by simp)
    ·rw [if_neg ha]
     have hy2 : t.acked.getD (Int.toNat (y : Int)) 0 = t.acked[y] := by simp [hy]
     rw [hy2,h.ack y hy] at ha
     have hm1 := hneg ⟨1,y⟩ (by omega)
     have hsame : ∀ e,e ≠ ⟨1,(y : Int)⟩ → atEv (l.take (i + 1)) e = atEv (l.take i) e := fun e hne=>by
      rw [hat]
      split
      ·rename_i hl
       rw [if_neg (fun e'=>hne e'.symm),hneg e hl]
      ·rfl
     have hnew : atEv (l.take (i + 1)) ⟨1,(y : Int)⟩ = i := by rw [hat,hm1,if_pos (by decide),if_pos rfl]
     refine ⟨by simp [h.len],h.le,fun x hx=>?_,fun x hx=>?_,fun x hx=>?_,fun e hm=>?_⟩
     ·rw [hsame _ (by intro e'; cases e')]; exact h.iss x hx
     ·have hx : x < 0 ∨ (t.issued.length : Int) ≤ x := hx
      have := h.not x hx
      rw [hsame _ (by intro e'; cases e'),hsame _ (by intro e'; cases e'; omega)]
      exact this
     ·simp only [List.length_set] at hx
      simp only [Int.toNat_natCast,List.getElem_set]
      by_cases hxy : y = x
      ·subst hxy; rw [if_pos rfl,hnew]
      ·rw [if_neg hxy,hsame _ (by intro e'; cases e'; omega)]; exact h.ack x hx
     ·rcases hmem e hm with hm | rfl
      ·exact h.kind e hm
      ·refine ⟨.inr rfl,by simp only; omega,?_⟩; show (y : Int) < (t.issued.length : Int); omega
  ·rw [if_neg hk1] at h0; exact absurd h0 (by simp)
theorem runEv_ok {n : Nat} {l : List Ev} : ∀ i : Nat,i ≤ l.length → (runEv n l i).1 = 0 → TlOk n (l.take i) (runEv n l i).2
 | 0,_,_=>by
  refine ⟨rfl,Nat.zero_le _,fun w h=>absurd h (Nat.not_lt_zero _),fun w _=>⟨rfl,rfl⟩,fun w h=>absurd h (Nat.not_lt_zero _),fun e h=>?_⟩
  simp at h
 | i + 1,hi,h=>by
  have hl : l[i]? = some l[i] := List.getElem?_eq_getElem (by omega)
  simp only [runEv,hl] at h ⊢
  split at h
  ·rename_i hc; exact absurd h hc
  ·rename_i hc
   rw [if_neg hc]
   have h0 : (runEv n l i).1 = 0 := by simpa using hc
   exact evStep_ok (by omega) (runEv_ok i (by omega) h0) h
theorem evStep_len {n : Nat} {i : Int} {t : Tl} {e : Ev} (h0 : (evStep n i t e).1 = 0) : ((evStep n i t e).2.issued.length : Int) = t.issued.length + if e.kind = 0 then 1 else 0 := by
 unfold evStep at h0 ⊢
 split at h0
 ·rename_i hk
  rw [if_pos hk,if_pos hk]
  split at h0
  ·exact absurd h0 (by simp)
  ·rename_i hc; rw [if_neg hc]; simp
 ·rename_i hk
  rw [if_neg hk,if_neg hk]
  split at h0
  ·rename_i hk1
   rw [if_pos hk1]
   split at h0
   ·exact absurd h0 (by simp)
   ·rename_i hc
    rw [if_neg hc]
    split at h0
    ·exact absurd h0 (by simp)
    ·rename_i hd; rw [if_neg hd]; simp
  ·exact absurd h0 (by simp)
theorem checkH_ok {h : Hist} (hc : (checkH h).1 = 0) : TlOk h.writes.length h.events (checkH h).2 ∧ (checkH h).2.issued.length = h.writes.length ∧ sizesErr h.sizes = 0 ∧ h.writes.length ≤ 4096 ∧ firstErr h.sizes h.writes = 0 := by
 unfold checkH at hc ⊢
 split at hc
 ·rename_i h1; exact absurd hc h1
 ·rename_i h1
  rw [if_neg h1]
  split at hc
  ·exact absurd hc (by simp)
  ·rename_i h2
   rw [if_neg h2]
   split at hc
   ·rename_i h3; exact absurd hc h3
   ·rename_i h3
    rw [if_neg h3]
    split at hc
    ·rename_i h4; exact absurd hc h4
    ·rename_i h4
     rw [if_neg h4]
     split at hc
     ·exact absurd hc (by simp)
     ·rename_i h5
      rw [if_neg h5]
      have := runEv_ok (n := h.writes.length) (l := h.events) h.events.length (Nat.le_refl _) (by simpa using h4)
      rw [List.take_length] at this
      exact ⟨this,by have := this.le; simp only at h5 ⊢; omega,by simpa using h1,by omega,by simpa using h3⟩
end Sx
end
noncomputable section
namespace Sx
open Go RowKit
def execT (P : Program) (cs : Ctrs) (U : FuncId → Bool) (n : Nat) : Conf → Tree :=
 Nat.rec (motive := fun _=>Conf → Tree) (fun c=>.leaf c) (fun _ ih c=>stepC P cs U ih c) n

section
variable {P : Program} {C : Ctx} {cs : Ctrs} {R : Value → World → Prop}

theorem execT_sound (hcs : cs.Ok P) (U : FuncId → Bool) : ∀ (n : Nat) (c : Conf),(execT P cs U n c).holds P C R → Runs P C c R
 | 0,_,h=>h
 | n + 1,c,h=>step_sound (U := U) (ih := execT P cs U n) hcs (fun c h=>execT_sound hcs U n c h) c h
theorem runs_ret {fn : FuncId} {aw : Option Tmp} {k : List Item} {tmps : List SV} {mem : Mem} {f : Func} {l : List SV} (hfn : P.funcs[fn]? = some f) (hres : resS P mem tmps f.results.toList = some l)
  (h : ∀ E H w,Good C.fin mem E H w → (one? l).Ok H → R ((one? l).den E) w) (hrd : C.x.rd = false := by rfl) : Runs P C ⟨⟨fn,none,aw,.code .ret :: k,tmps⟩,[],mem⟩ R := by
 intro E H w g ok
 obtain ⟨h1,h2⟩ := run_results (P := P) g.take ok.1 hres
 show Go1 P (kindOf C.x) fn (.code .ret :: k) ⟨(SV.denL E tmps).toArray,marksOf C.x.df⟩ w R
 rw [show kindOf C.x = none by simp [kindOf,hrd]]
 exact Go1.ret hfn rfl g.fix.nodup (fun D hD=>(g.fix.fx D _ (g.fix.mark D hD).2).1) h1 (h E H _ g.take h2)
def OwnR (w : World) (H : HV) (e : TypeId) (mk : D → D) (u : Value) (w' : World) : Prop :=
 ∃ E1 H' k h,u = (SV.vec k).den E1 ∧ Good ⟨w,H⟩ [(k,.arr e (mk h))] E1 H' w'
abbrev OSpec := List SV → Option (List Prop × TypeId × (D → D))

def OLaw (P : Program) (f : FuncId) (spec : OSpec) : Prop :=
 Bodied P f = true ∧ ∀ (H : HV) (E : Env) (args : List SV),SV.OkL H args →
  match spec args with
  | some (ps,e,mk)=>(∀ p,p ∈ ps → p) → ∀ w,InMem H w → Calls P f (SV.denL E args).toArray w fun r w'=>∃ u,r = .returned u ∧ OwnR w H e mk u w'
  | none=>True

def oCtr (spec : OSpec) : Ctr := fun args key m =>
 match spec (closeL (pubsR (leavesL args) m) args) with
 | some (ps,e,mk)=>.all ps fun hs=>(.vec key,(key,.arr e (mk (hs 0))) :: pubsR (leavesL args) m)
 | none=>.bad

theorem keysEq_len : ∀ {a b : Mem},keysEq a b = true → a.length = b.length
 | [],[],_=>rfl
 | [],_ :: _,h=>by simp [keysEq] at h
 | _ :: _,[],h=>by simp [keysEq] at h
 | _ :: r,_ :: s,h=>by
  simp only [keysEq,Bool.and_eq_true] at h
  simp only [List.length_cons,keysEq_len h.2]

theorem oCtr_ro {spec : OSpec} : CtrRO (oCtr spec) := by
 intro args key m h
 unfold oCtr
 cases hs : spec (closeL (pubsR (leavesL args) m) args) with
 | none=>trivial
 | some x =>
  obtain ⟨ps,e,mk⟩ := x
  simp only
  intro hs hk
  have := keysEq_len hk
  simp [pubsR_ro h] at this

theorem ownsRow_mono {w : World} {a b : Nat} {e : TypeId} {sz : Nat} {v : Value} {n : Nat} {xs : List Value} (h : w.ownsRow a e sz v n xs) (hb : b ≤ a) : w.ownsRow b e sz v n xs := by
 obtain ⟨h1,h2⟩ := h
 refine ⟨h1,h2.imp id fun ⟨g,cap,cur,h3,h4,h5⟩=>⟨g,cap,cur,h3,Nat.le_trans hb h4,h5⟩⟩

theorem oCtr_ok {f : FuncId} {spec : OSpec} (h : OLaw P f spec) : CtrOk P f (oCtr spec) := by
 refine ⟨bodied_spec h.1,fun C E H w args key m g hargs hk hk2=>?_,oCtr_ro⟩
 obtain ⟨H1,hle,g1,nw⟩ := pubsR_spec (leavesL args) g
 have hpm := pubsR_mem (leavesL args) (m := m)
 obtain ⟨e1,e2⟩ := closeL_spec g1 args (SV.OkL.mono hle _ hargs)
 have hl := h.2 H1 E _ e2
 unfold CallRight oCtr
 cases hs : spec (closeL (pubsR (leavesL args) m) args) with
 | none=>simp
 | some x =>
  obtain ⟨ps,e,mk⟩ := x
  simp only [hs] at hl ⊢
  intro hp
  have hc := hl hp w g1.cell
  rw [e1] at hc
  refine Calls.mono hc fun r w' ⟨u,hr,E1,H',k,hd,hu,g2⟩=>?_
  have g3 := g1.call g2.below g2.ext g2.fresh g2.cell
  have o2 := g2.own k _ (List.mem_singleton.2 rfl)
  have ha := E.agree_setV key (E1.b k) (E1.v k)
  have hk' := has_pubsR (leavesL args) hk
  have hbE : (E.setV key (E1.b k) (E1.v k)).b key = E1.b k := by simp [Env.setV]
  have hvE : (E.setV key (E1.b k) (E1.v k)).v key = E1.v k := by simp [Env.setV]
  obtain ⟨hh,sz,rows,q1,q2,q3,q4,q5,q6⟩ := o2
  have hlow : OBlk.Lies (.arr e (mk hd)) → w.heap.size ≤ E1.b k := by
   intro hl
   rw [q1] at hl q3
   simp only [OBlk.Lies,D.hd] at hl
   cases hh with
   | none=>exact absurd rfl hl
   | some ac =>
    obtain ⟨a,c⟩ := ac
    obtain ⟨_,h3⟩ := q3
    have hq6 := (q6 a c rfl).1
    rcases h3 with ⟨h3,_⟩ | ⟨g',cap,cur,h3,h4,_⟩
    ·simp [D.val,hval] at h3
    ·simp only [D.val,hval,Value.slice.injEq,Option.some.injEq] at h3
     have h5 : E1.b k = g' := by have := h3.1; rw [hq6] at this; exact congrArg Addr.block this
     rw [h5]; exact h4
  have g4 : Good C ((key,.arr e (mk hd)) :: pubsR (leavesL args) m) (E.setV key (E1.b k) (E1.v k)) H' w' := by
   refine g3.cons hk' ha (Below.refl _ _) ⟨hh,sz,rows,q1,by rw [hvE]; exact q2,ownsRow_mono q3 g.below.size,q4,q5,fun a c hac=>?_⟩ (fun hl j p hj hlp=>?_)
   ·rw [hbE]; exact q6 a c hac
   ·rw [hbE]
    have h1 := hlow hl
    have h2 := (g1.own j p hj).lt hlp
    omega
  refine ⟨fun _=>hd,E.setV key (E1.b k) (E1.v k),H',by rw [hr,hu]; simp [SV.den,hvE],ha,hle.trans g2.ext,g4,by simp [SV.Ok],?_⟩
  refine ⟨g2.below.size,fun b hb _=>g2.below.block b hb,fun b x v hx=>?_,fun j o hj=>?_,fun j o hj hl=>?_,g2.below.os,g2.below.tape,g2.below.output⟩
  ·rcases g2.fresh b x v hx with h1 | h1
   ·exact (nw b x v h1).imp id .inr
   ·exact .inr (.inl h1)
  ·rcases List.mem_cons.1 hj with hj | hj
   ·exact Or.inl (congrArg Prod.fst hj)
   ·exact .inr (hpm j o hj).1
  ·rcases List.mem_cons.1 hj with hj | hj
   ·have e1 : j = key := congrArg Prod.fst hj
    have e2 : o = .arr e (mk hd) := congrArg Prod.snd hj
    subst e1; subst e2
    rw [hbE]; exact .inl (hlow hl)
   ·refine .inr ⟨j,o,(hpm j o hj).2 hl,hl,?_⟩
    exact (ha.1 j (Mem.has_key hk' _ hj).1).1
theorem calls_of {f : FuncId} {H : HV} {args : List SV} {w : World} {R : Value → World → Prop} (hb : Bodied P f = true) (hok : SV.OkL H args) (E : Env) (hc : InMem H w)
  (h : Runs P ⟨w,H⟩ (entry P f args) R) : Calls P f (SV.denL E args).toArray w fun e w'=>∃ v,e = .returned v ∧ R v w' := by
 obtain ⟨fn,hfn,hbs,_⟩ := bodied_spec hb
 cases hbody : fn.body with
 | none=>rw [hbody] at hbs; cases hbs
 | some b =>
  simp only [entry,hfn,hbody] at h
  have hr := h E H w (good_start hc E) ⟨okL_append hok (by rw [SV.OkL_iff]; intro x hx; rw [List.eq_of_mem_replicate hx]; simp [SV.Ok]),by simp⟩
  rw [stkRun_eq] at hr
  simp only [List.map_nil,restOf,SFrm.dn,dsOf,roOf,CFrm.run] at hr
  have e3 : (SV.denL E args).toArray ++ Array.replicate (fn.ntmps - (SV.denL E args).toArray.size) undef = (SV.denL E (args ++ List.replicate (fn.ntmps - args.length) .undef)).toArray := by
   simp [SV.denL_eq,SV.den,← List.toArray_replicate]
  exact calls_of_go1 (P := P) (f := f) (args := (SV.denL E args).toArray) (w := w) hfn hbody (by rw [e3]; exact hr)
def spClone (α : Type) [Codec α] (e : TypeId) : OSpec := fun args=>match args with
 | [x]=>match rdD.read x with
  | some d=>some ([d.Is α ∧ d.len ≤ 1048576],e,fun h=>.slc h.hd (Codec.sz α) d.rows)
  | none=>none
 | _=>none

theorem olaw_clone {f : FuncId} {α : Type} [Codec α] {e : TypeId} (hb : Bodied P f = true)
  (h : ∀ (H : HV) (w : World) (d : D),d.Ok H → d.Is α → d.len ≤ 1048576 → Runs P ⟨w,H⟩ (entry P f [.dat d]) (OwnR w H e fun h=>.slc h.hd (Codec.sz α) d.rows)) : OLaw P f (spClone α e) := by
 refine ⟨hb,fun H E args hargs=>?_⟩
 unfold spClone
 split
 ·rename_i heq
  split at heq
  ·rename_i x
   split at heq
   ·rename_i d hd
    cases heq
    intro hp w hc
    obtain ⟨h1,h2⟩ := rdD.right H E x d hd hargs.1
    obtain ⟨p1,p2⟩ := hp _ (List.mem_singleton.2 rfl)
    have := calls_of hb (args := [.dat d]) ⟨h2,trivial⟩ E hc (h H w d h2.1 p1 p2)
    have e1 : SV.denL E [x] = SV.denL E [.dat d] := by simp only [SV.denL]; rw [h1]; rfl
    rw [e1]
    exact this
   ·cases heq
  ·cases heq
 ·trivial
theorem own_nil {w : World} {H : HV} {e : TypeId} {sz : Nat} {mk : D → D} {h : D} (hm : mk h = .slc none sz []) : (Tree.ret .nils).holds P ⟨w,H⟩ (OwnR w H e mk) := by
 refine ⟨rfl,fun E H' w' g _=>?_⟩
 refine ⟨E.setV 0 0 (none,0),H',0,h,by simp [SV.den,Env.setV,hval],?_⟩
 refine g.cons (by rfl) (E.agree_setV 0 0 (none,0)) (Below.refl _ _) ?_ (fun _ j p hj _=>by cases hj)
 rw [hm]
 exact ⟨none,sz,[],rfl,by simp [Env.setV],World.ownsRow_nil w' _ e sz,by simp,by simp,by simp⟩
theorem own_ret {w : World} {H : HV} {e : TypeId} {mk : D → D} {fn : FuncId} {aw : Option Tmp} {k : List Item} {tmps : List SV} {mem : Mem} {f : Func} {j : Nat} {d h : D} (hfn : P.funcs[fn]? = some f)
  (hres : resS P mem tmps f.results.toList = some [.vec j]) (hmem : mem = [(j,.arr e d)]) (hd : d = mk h) : (Tree.leaf ⟨⟨fn,none,aw,.code .ret :: k,tmps⟩,[],mem⟩).holds P ⟨w,H⟩ (OwnR w H e mk) := by
 refine runs_ret hfn hres fun E H' w' g _=>?_
 subst hmem
 subst hd
 exact ⟨E,H',j,h,rfl,g⟩
end
end Sx
end
noncomputable section
open Go
namespace Sx
instance : Codec Sec where
 sz := 8
 ok r := ∃ a b c d e f g h,r = [.int .u8 a,.int .u8 b,.int .u8 c,.int .u8 d,.int .u8 e,.int .u8 f,.int .u8 g,.int .u8 h]
 dec r := match r with | [.int _ a,.int _ b,.int _ c,.int _ d,.int _ e,.int _ f,.int _ g,.int _ h]=>⟨a,b,c,d,e,f,g,h⟩ | _=>⟨0,0,0,0,0,0,0,0⟩
 enc s := [.int .u8 s.b0,.int .u8 s.b1,.int .u8 s.b2,.int .u8 s.b3,.int .u8 s.b4,.int .u8 s.b5,.int .u8 s.b6,.int .u8 s.b7]
 ok_enc s := ⟨_,_,_,_,_,_,_,_,rfl⟩
 dec_enc _ := rfl
 len r := by rintro ⟨_,_,_,_,_,_,_,_,rfl⟩; rfl
def encD {α : Type} [Codec α] (l : List α) : D := .slc none (Codec.sz α) (l.map Codec.enc)
theorem encD_is {α : Type} [Codec α] (l : List α) : (encD l).Is α := ⟨_,_,_,rfl,.inr rfl,fun r hr=>by obtain ⟨x,_,rfl⟩ := List.mem_map.1 hr; exact Codec.ok_enc x⟩
theorem encD_to {α : Type} [Codec α] (l : List α) : (encD l).to α = l := by
 simp only [encD,D.to,D.rows,List.map_map]
 conv=>rhs; rw [← List.map_id l]
 exact List.map_congr_left fun x _=>Codec.dec_enc x
instance : Codec Wt where
 sz := 3
 ok r := ∃ v s d,r = [.int .i64 v,.int .i64 s,d] ∧ d.Is Sec
 dec r := match r with | [.int _ v,.int _ s,d]=>⟨v,s,d.to Sec⟩ | _=>⟨0,0,[]⟩
 enc w := [.int .i64 w.vol,.int .i64 w.start,encD w.data]
 ok_enc w := ⟨_,_,_,rfl,encD_is _⟩
 dec_enc w := by simp only [encD_to]
 len r := by rintro ⟨_,_,_,rfl,_⟩; rfl
instance : Codec Ev where
 sz := 2
 ok r := ∃ k w,r = [.int .i64 k,.int .i64 w]
 dec r := match r with | [.int _ k,.int _ w]=>⟨k,w⟩ | _=>⟨0,0⟩
 enc e := [.int .i64 e.kind,.int .i64 e.write]
 ok_enc e := ⟨_,_,rfl⟩
 dec_enc _ := rfl
 len r := by rintro ⟨_,_,rfl⟩; rfl
structure Vol where
 l : List Sec
deriving DecidableEq
instance : Codec Vol where
 sz := 1
 ok r := ∃ d,r = [d] ∧ d.Is Sec
 dec r := match r with | [d]=>⟨d.to Sec⟩ | _=>⟨[]⟩
 enc v := [encD v.l]
 ok_enc v := ⟨_,rfl,encD_is _⟩
 dec_enc w := by simp only [encD_to]
 len r := by rintro ⟨_,rfl,_⟩; rfl
structure HiD where
 s : D
 w : D
 e : D
def HiD.hist (x : HiD) : Hist := ⟨x.s.to Int,x.w.to Wt,x.e.to Ev⟩
def HiD.Right (x : HiD) : Prop := x.s.Is Int ∧ x.w.Is Wt ∧ x.e.Is Ev ∧ x.s.len ≤ 1048576 ∧ x.w.len ≤ 1048576 ∧ x.e.len ≤ 1048576 ∧ ∀ w,w ∈ x.w.to Wt → w.data.length ≤ 1048576
def rdHi : Rd1 HiD where
 read x := match x with
  | .agg [s,w,e]=>match rdD.read s,rdD.read w,rdD.read e with
   | some s,some w,some e=>some ⟨s,w,e⟩
   | _,_,_=>none
  | _=>none
 canon h := .agg [.dat h.s,.dat h.w,.dat h.e]
 right H E x b h hok := by
  split at h
  ·split at h
   ·rename_i h1 h2 h3
    cases h
    obtain ⟨a1,a2,a3,_⟩ := hok
    obtain ⟨i1,i2⟩ := rdD.right H E _ _ h1 a1
    obtain ⟨j1,j2⟩ := rdD.right H E _ _ h2 a2
    obtain ⟨k1,k2⟩ := rdD.right H E _ _ h3 a3
    refine ⟨?_,i2,j2,k2,trivial⟩
    simp only [SV.den,SV.denL,i1,j1,k1]
    rfl
   ·cases h
  ·cases h
structure WtD where
 v : Int
 s : Int
 d : D
def WtD.wt (x : WtD) : Wt := ⟨x.v,x.s,x.d.to Sec⟩
def rdWt : Rd1 WtD where
 read x := match x with
  | .agg [.int .i64 v,.int .i64 s,d]=>match rdD.read d with
   | some d=>some ⟨v,s,d⟩
   | _=>none
  | _=>none
 canon h := .agg [.int .i64 h.v,.int .i64 h.s,.dat h.d]
 right H E x b h hok := by
  split at h
  ·split at h
   ·rename_i h1
    cases h
    obtain ⟨_,_,a3,_⟩ := hok
    obtain ⟨i1,i2⟩ := rdD.right H E _ _ h1 a3
    refine ⟨?_,trivial,trivial,i2,trivial⟩
    simp only [SV.den,SV.denL,i1]
    rfl
   ·cases h
  ·cases h
abbrev tsJ : TS := .int .i64
abbrev tsSec : TS := .arr 8 (.int .u8)
abbrev tsWt : List TS := [tsJ,tsJ,.slc tsSec]
theorem shJ {ds : List D} (h : TS.Sh tsJ ds) : ∃ n,ds = [.int .i64 n] := by
 simp only [TS.Sh] at h
 obtain ⟨n,h,_⟩ := h
 exact ⟨n,h⟩
theorem shSlc {e : TS} {ds : List D} (h : TS.Sh (.slc e) ds) : ∃ d,ds = [d] ∧ TS.Sh (.slc e) [d] := by
 have h' := h
 simp only [TS.Sh] at h
 obtain ⟨a,s,rows,rfl,_⟩ := h
 exact ⟨_,rfl,h'⟩
theorem shSl {α : Type} [Codec α] {e : TS} (hs : e.sz = Codec.sz α) (ho : ∀ r,e.Sh r → Codec.ok α r) {d : D} (h : TS.Sh (.slc e) [d]) : d.Is α ∧ d.IsSlc ∧ d.len ≤ maxLen := by
 simp only [TS.Sh] at h
 obtain ⟨a,s,rows,h1,h2,h3,h4⟩ := h
 simp only [List.cons.injEq,and_true] at h1
 subst h1
 exact ⟨⟨a,s,rows,rfl,h2.imp id fun h=>by rw [h]; exact hs,fun r hr=>ho r (h4 r hr)⟩,⟨_,_,_,rfl⟩,h3⟩
theorem shSec {ds : List D} (h : TS.Sh tsSec ds) : Codec.ok Sec ds := by
 simp only [TS.Sh] at h
 obtain ⟨l,rfl,h1,h2⟩ := h
 match l,h1 with
 | [r0,r1,r2,r3,r4,r5,r6,r7],_ =>
  obtain ⟨a,rfl,_⟩ := h2 r0 (by simp)
  obtain ⟨b,rfl,_⟩ := h2 r1 (by simp)
  obtain ⟨c,rfl,_⟩ := h2 r2 (by simp)
  obtain ⟨d,rfl,_⟩ := h2 r3 (by simp)
  obtain ⟨e,rfl,_⟩ := h2 r4 (by simp)
  obtain ⟨f,rfl,_⟩ := h2 r5 (by simp)
  obtain ⟨g,rfl,_⟩ := h2 r6 (by simp)
  obtain ⟨i,rfl,_⟩ := h2 r7 (by simp)
  exact ⟨_,_,_,_,_,_,_,_,rfl⟩
theorem shSecs {d : D} (h : TS.Sh (.slc tsSec) [d]) : d.Is Sec ∧ d.IsSlc ∧ d.len ≤ maxLen := shSl rfl (fun r hr=>shSec hr) h
theorem sh_wt {ds : List D} (h : TS.ShL tsWt ds) : ∃ v s d,ds = [.int .i64 v,.int .i64 s,d] ∧ d.Is Sec ∧ d.IsSlc := by
 simp only [tsWt,TS.ShL] at h
 obtain ⟨_,_,rfl,h1,_,_,rfl,h2,_,_,rfl,h3,rfl⟩ := h
 obtain ⟨v,rfl⟩ := shJ h1
 obtain ⟨s,rfl⟩ := shJ h2
 obtain ⟨d,rfl,h3⟩ := shSlc h3
 exact ⟨v,s,d,rfl,(shSecs h3).1,(shSecs h3).2.1⟩
theorem shWts {d : D} (h : TS.Sh (.slc (.st tsWt)) [d]) : d.Is Wt ∧ d.IsSlc ∧ d.len ≤ maxLen :=
 shSl rfl (fun r hr=>by
  obtain ⟨v,s,d,rfl,h,_⟩ := sh_wt (by simpa only [TS.Sh] using hr)
  exact ⟨_,_,_,rfl,h⟩) h
end Sx
end
noncomputable section
namespace Sx
open Go RowKit

structure Src where
 epoch : Int
 site : Int
 offered : List Int
 stored : Int
 applied : Int
deriving DecidableEq

structure Tgt where
 epoch : Int
 site : Int
 stored : Int
 applied : Int
deriving DecidableEq

structure Msg where
 kind : Int
 frm : Int
 to : Int
 number : Int
 value : Int
 epoch : Int
 values : List Int := []
 body : List Byte := []
deriving DecidableEq

def okTime (n : Int) : Bool := decide (n ≥ 0) && decide (n ≤ 1073741824)
def okSite (n : Int) : Bool := decide (n ≥ 0) && decide (n < 4)
def asc32 : Int → List Int → Bool
 | _,[]=>true
 | l,x :: r=>decide (l < x) && decide (x ≤ 1073741824) && asc32 x r

def okRight (e s a : Int) : Bool := okTime e && okSite s && okTime a

def checkSource (s : Src) : Int :=
 if okRight s.epoch s.site s.applied = false then 2
 else if s.offered.length > 1024 then 6
 else if asc32 s.applied s.offered = false then 3
 else if s.stored ≠ s.applied ∧ s.stored ∉ s.offered then 12
 else 0

def checkTarget (t : Tgt) : Int :=
 if okTime t.epoch = false ∨ okSite t.site = false then 2
 else if t.applied < 0 ∨ t.stored < t.applied ∨ t.stored > 1073741824 then 3
 else 0

def newSource (e s a : Int) : Src × Int := if okRight e s a then (⟨e,s,[],a,a⟩,0) else (⟨0,0,[],0,0⟩,2)
def newTarget (e s a : Int) : Tgt × Int := if okRight e s a then (⟨e,s,a,a⟩,0) else (⟨0,0,0,0⟩,2)

def zSrc : Src := ⟨0,0,[],0,0⟩
def zTgt : Tgt := ⟨0,0,0,0⟩
def toTarget (s : Src) (kind cycle : Int) : Msg := ⟨kind,0,s.site,cycle,0,s.epoch,[],[]⟩
def toSource (t : Tgt) (kind cycle : Int) : Msg := ⟨kind,t.site,0,0,cycle,t.epoch,[],[]⟩

def lastOf (a : Int) (l : List Int) : Int := l.getLastD a

def offer (s : Src) (c : Int) : Src × List Msg × Int :=
 if checkSource s ≠ 0 then (zSrc,[],checkSource s)
 else if c ≤ lastOf s.applied s.offered then (zSrc,[],8)
 else if c > 1073741824 then (zSrc,[],2)
 else if s.offered.length ≥ 1024 then (zSrc,[],6)
 else ({ s with offered := s.offered ++ [c] },[toTarget s 8 c],0)

def store (t : Tgt) (c : Int) : Tgt × List Msg × Int :=
 if checkTarget t ≠ 0 then (zTgt,[],checkTarget t)
 else if c ≤ t.stored then (zTgt,[],8)
 else if c > 1073741824 then (zTgt,[],2)
 else ({ t with stored := c },[toSource t 9 c],0)

def applyT (t : Tgt) (c : Int) : Tgt × List Msg × Int :=
 if checkTarget t ≠ 0 then (zTgt,[],checkTarget t)
 else if c ≤ t.applied then (zTgt,[],8)
 else if c > t.stored then (zTgt,[],15)
 else ({ t with applied := c },[toSource t 11 c],0)

def answer (t : Tgt) (m : Msg) : Tgt × List Msg :=
 if checkTarget t ≠ 0 ∨ m.to ≠ t.site ∨ okTime m.epoch = false ∨ (m.kind ≠ 8 ∧ m.kind ≠ 10) then (t,[])
 else if m.epoch < t.epoch then (t,[toSource t 12 0])
 else
  let t' : Tgt := if m.epoch > t.epoch then { t with epoch := m.epoch,stored := t.applied } else t
  if m.kind = 8 then (t',[toSource t' 9 t'.stored]) else (t',[toSource t' 11 t'.applied])

def learn (s : Src) (m : Msg) : Src × List Msg :=
 if checkSource s ≠ 0 ∨ m.frm ≠ s.site ∨ m.epoch < s.epoch ∨ m.epoch > 1073741824 then (s,[])
 else if m.kind ≠ 9 ∧ m.kind ≠ 11 ∧ m.kind ≠ 12 then (s,[])
 else if m.epoch > s.epoch then ({ s with epoch := m.epoch,offered := [],stored := s.applied },[])
 else if m.kind = 9 then
  if m.value ∈ s.offered ∧ m.value ≥ s.stored then ({ s with stored := m.value },[toTarget s 10 m.value]) else (s,[])
 else if m.kind = 11 then
  if m.value ∈ s.offered then ({ s with applied := m.value,stored := max s.stored m.value,offered := s.offered.filter fun x=>decide (x > m.value) },[]) else (s,[])
 else (s,[])

def resend (s : Src) : List Msg :=
 if checkSource s ≠ 0 then []
 else (if s.stored > s.applied then [toTarget s 10 s.stored] else []) ++ (s.offered.filter fun x=>decide (x > s.stored)).map (toTarget s 8)

end Sx
end
noncomputable section
open Go
namespace Sx
instance : Codec Msg where
 sz := 8
 ok r := ∃ a b c d e f v w,r = [.int .i64 a,.int .i64 b,.int .i64 c,.int .i64 d,.int .i64 e,.int .i64 f,v,w] ∧ v.Is Int ∧ w.Is Byte
 dec r := match r with
  | [.int _ a,.int _ b,.int _ c,.int _ d,.int _ e,.int _ f,v,w]=>⟨a,b,c,d,e,f,v.to Int,w.to Byte⟩
  | _=>⟨0,0,0,0,0,0,[],[]⟩
 enc m := [.int .i64 m.kind,.int .i64 m.frm,.int .i64 m.to,.int .i64 m.number,.int .i64 m.value,.int .i64 m.epoch,D.like default m.values,D.like default m.body]
 ok_enc m := ⟨_,_,_,_,_,_,_,_,rfl,D.like_is _ _,D.like_is _ _⟩
 dec_enc m := by simp [D.like_to]
 len r := by rintro ⟨_,_,_,_,_,_,_,_,rfl,_⟩; rfl
@[simp] theorem sz_msg : Codec.sz Msg = 8 := rfl
@[simp] theorem ok_msg (a b c d e f : Int) : Codec.ok Msg [.int .i64 a,.int .i64 b,.int .i64 c,.int .i64 d,.int .i64 e,.int .i64 f,.slc none 0 [],.slc none 0 []] :=
 ⟨_,_,_,_,_,_,_,_,rfl,is_nil _ _,is_nil _ _⟩
@[simp] theorem dec_msg (a b c d e f : Int) : (Codec.dec [.int .i64 a,.int .i64 b,.int .i64 c,.int .i64 d,.int .i64 e,.int .i64 f,.slc none 0 [],.slc none 0 []] : Msg) = ⟨a,b,c,d,e,f,[],[]⟩ := rfl
theorem msg_cell {d : D} (h : d.Is Msg) {i : Nat} (hi : i < (d.to Msg).length) :
  d.HasCells i 0 [.int .i64,.int .i64,.int .i64,.int .i64,.int .i64,.int .i64,.slc,.slc] ∧
  d.getInt i 0 = ((d.to Msg)[i]).kind ∧ d.getInt i 1 = ((d.to Msg)[i]).frm ∧ d.getInt i 2 = ((d.to Msg)[i]).to ∧ d.getInt i 3 = ((d.to Msg)[i]).number ∧
  d.getInt i 4 = ((d.to Msg)[i]).value ∧ d.getInt i 5 = ((d.to Msg)[i]).epoch ∧ (d.cell i 6).Is Int ∧ (d.cell i 6).to Int = ((d.to Msg)[i]).values ∧ (d.cell i 7).Is Byte ∧ (d.cell i 7).to Byte = ((d.to Msg)[i]).body := by
 obtain ⟨r,h1,⟨a,b,c,d',e,f,v,w,rfl,hv,hw⟩,h3⟩ := h.row hi
 rw [h3]
 obtain ⟨p1,p2,p3,rfl⟩ := hv.slc
 obtain ⟨q1,q2,q3,rfl⟩ := hw.slc
 have e : ∀ j,d.cellAt i j = ([.int .i64 a,.int .i64 b,.int .i64 c,.int .i64 d',.int .i64 e,.int .i64 f,.slc p1 p2 p3,.slc q1 q2 q3] : List D)[j]? := fun j=>by simp [D.cellAt,h1]
 simp only [D.HasCells,D.HasCell,D.getInt,D.cell,e]
 refine ⟨⟨⟨_,rfl⟩,⟨_,rfl⟩,⟨_,rfl⟩,⟨_,rfl⟩,⟨_,rfl⟩,⟨_,rfl⟩,⟨_,_,_,rfl⟩,⟨_,_,_,rfl⟩,trivial⟩,rfl,rfl,rfl,rfl,rfl,rfl,hv,rfl,hw,rfl⟩
def srcSV (d : D) (s : Src) : SV := .agg [.int .i64 s.epoch,.int .i64 s.site,.dat (d.like s.offered),.int .i64 s.stored,.int .i64 s.applied]
def tgtSV (t : Tgt) : SV := .agg [.int .i64 t.epoch,.int .i64 t.site,.int .i64 t.stored,.int .i64 t.applied]
structure SrcD where
 e : Int
 s : Int
 d : D
 st : Int
 ap : Int
def SrcD.src (x : SrcD) : Src := ⟨x.e,x.s,x.d.to Int,x.st,x.ap⟩
def rdSrc : Rd1 SrcD where
 read x := match x with
  | .agg [.int .i64 e,.int .i64 s,o,.int .i64 st,.int .i64 ap]=>match rdD.read o with
   | some d=>some ⟨e,s,d,st,ap⟩
   | none=>none
  | _=>none
 canon x := .agg [.int .i64 x.e,.int .i64 x.s,.dat x.d,.int .i64 x.st,.int .i64 x.ap]
 right H E x b h hok := by
  split at h
  ·split at h
   ·rename_i hd
    cases h
    obtain ⟨h1,h2⟩ := rdD.right H E _ _ hd hok.2.2.1
    exact ⟨by simp only [SV.den,SV.denL,h1,rdD],trivial,trivial,h2,trivial,trivial,trivial⟩
   ·cases h
  ·cases h
def rdTgt : Rd1 Tgt where
 read x := match x with
  | .agg [.int .i64 e,.int .i64 s,.int .i64 st,.int .i64 ap]=>some ⟨e,s,st,ap⟩
  | _=>none
 canon := tgtSV
 right H E x b h hok := by
  split at h
  ·cases h; exact ⟨rfl,by simp [tgtSV,SV.Ok,SV.OkL]⟩
  ·cases h
structure MsgD where
 a : Int
 b : Int
 c : Int
 d : Int
 e : Int
 f : Int
 v : D
 w : D
def MsgD.msg (x : MsgD) : Msg := ⟨x.a,x.b,x.c,x.d,x.e,x.f,x.v.to Int,x.w.to Byte⟩
def rdMsg : Rd1 MsgD where
 read x := match x with
  | .agg [.int .i64 a,.int .i64 b,.int .i64 c,.int .i64 d,.int .i64 e,.int .i64 f,v,w]=>match rdD.read v,rdD.read w with
   | some v,some w=>some ⟨a,b,c,d,e,f,v,w⟩
   | _,_=>none
  | _=>none
 canon x := .agg [.int .i64 x.a,.int .i64 x.b,.int .i64 x.c,.int .i64 x.d,.int .i64 x.e,.int .i64 x.f,.dat x.v,.dat x.w]
 right H E x b h hok := by
  split at h
  ·split at h
   ·rename_i hv hw
    cases h
    obtain ⟨h1,h2⟩ := rdD.right H E _ _ hv hok.2.2.2.2.2.2.1
    obtain ⟨h3,h4⟩ := rdD.right H E _ _ hw hok.2.2.2.2.2.2.2.1
    exact ⟨by simp only [SV.den,SV.denL,h1,h3,rdD],trivial,trivial,trivial,trivial,trivial,trivial,h2,h4,trivial⟩
   ·cases h
  ·cases h
def idxF (l : List Int) (n : Int) : Int := match l.findIdx? (fun x=>n == x) with
 | some i=>i
 | none=>-1
def spHas32 (x : D × Int) : SpecR := .scalar [x.1.Is Int ∧ x.1.len ≤ 1048576] (.bool ((x.1.to Int).contains x.2))
def spIdx (x : D × Int) : SpecR := .scalar [x.1.Is Int ∧ x.1.len ≤ 1048576] (.int .i64 (idxF (x.1.to Int) x.2))
def spCS (x : SrcD) : SpecR := .scalar [x.d.Is Int] (.int .i64 (checkSource x.src))
def spCT (x : Tgt) : SpecR := .scalar [] (.int .i64 (checkTarget x))
def spToSource (x : Tgt × Int × Int) : SpecR := .data [] fun ds=>.dat ((ds 0).like [toSource x.1 x.2.1 x.2.2])
def spOffered (x : Tgt) : SpecR := .data [] fun ds=>.dat ((ds 0).like [toSource x 9 x.stored])
def spCommitted (x : Tgt) : SpecR := .data [] fun ds=>.dat ((ds 0).like [toSource x 11 x.applied])
def spNewS (x : Int × Int × Int) : SpecR := .data [] fun ds=>.tup [srcSV (ds 0) (newSource x.1 x.2.1 x.2.2).1,.int .i64 (newSource x.1 x.2.1 x.2.2).2]
def spNewT32 (x : Int × Int × Int) : SpecR := .data [] fun _=>.tup [tgtSV (newTarget x.1 x.2.1 x.2.2).1,.int .i64 (newTarget x.1 x.2.1 x.2.2).2]
def spOffer (x : SrcD × Int) : SpecR := .data [x.1.d.Is Int] fun ds=>.tup [srcSV (ds 0) (offer x.1.src x.2).1,.dat ((ds 1).like (offer x.1.src x.2).2.1),.int .i64 (offer x.1.src x.2).2.2]
def spStore (f : Tgt → Int → Tgt × List Msg × Int) (x : Tgt × Int) : SpecR := .data [] fun ds=>.tup [tgtSV (f x.1 x.2).1,.dat ((ds 0).like (f x.1 x.2).2.1),.int .i64 (f x.1 x.2).2.2]
def spAnswer (x : Tgt × MsgD) : SpecR := .data [] fun ds=>.tup [tgtSV (answer x.1 x.2.msg).1,.dat ((ds 0).like (answer x.1 x.2.msg).2)]
def spLearn (x : SrcD × MsgD) : SpecR := .data [x.1.d.Is Int] fun ds=>.tup [srcSV (ds 0) (learn x.1.src x.2.msg).1,.dat ((ds 1).like (learn x.1.src x.2.msg).2)]
def spResend (x : SrcD) : SpecR := .data [x.d.Is Int] fun ds=>.dat ((ds 0).like (resend x.src))
end Sx
end
noncomputable section
namespace Sx
open Go RowKit
class Plain (α : Type) [Codec α] where
 cells : D → Nat → α → List D
 right : ∀ d i r,d.rows[i]? = some r → Codec.ok α r → cells d i (Codec.dec r) = r

section
variable {α : Type} [Codec α] [Plain α]

def plainRows (d : D) : Nat → List α → List (List D)
 | _,[]=>[]
 | i,x :: r=>Plain.cells d i x :: plainRows d (i + 1) r

def D.plain (d : D) (l : List α) : D :=
 .slc d.hd (match l with | []=>d.sz | _ :: _=>Codec.sz α) (plainRows d 0 l)

theorem plainRows_eq (d : D) : ∀ (rows : List (List D)) (i : Nat),(∀ j,(h : j < rows.length) → d.rows[i + j]? = some rows[j]) → (∀ r,r ∈ rows → Codec.ok α r) →
  plainRows d i (rows.map (Codec.dec (α := α))) = rows
 | [],_,_,_=>rfl
 | r :: rs,i,h,ho=>by
  simp only [List.map_cons,plainRows]
  rw [Plain.right d i r (h 0 (by simp)) (ho r (by simp)),plainRows_eq d rs (i + 1) (fun j hj=>by have := h (j + 1) (by simpa using hj); simpa [Nat.add_assoc,Nat.add_comm 1 j] using this) fun r' hr'=>ho r' (by simp [hr'])]

theorem plain_self {d : D} (h : d.Is α) : d.plain (d.to α) = d := by
  obtain ⟨a,b,c,rfl,h1,h2⟩ := h
  unfold D.plain D.to
  simp only [D.rows,D.hd]
  rw [plainRows_eq (α := α) (.slc a b c) c 0 (fun j hj=>by simp [D.rows,hj]) h2]
  cases c with
  | nil=>rfl
  | cons x r => rcases h1 with h1 | h1
                · cases h1
                · subst h1; rfl

end

instance : Plain Int where
 cells _ _ n := [.int .i64 n]
 right d i r _ h := by obtain ⟨n,rfl⟩ := h; rfl

instance : Plain Byte where
 cells _ _ n := [.int .u8 n.n]
 right d i r _ h := by obtain ⟨n,rfl⟩ := h; rfl


end Sx
end
noncomputable section
namespace Sx
open Go
def Tree.dec : Tree → Tree
 | .leaf c=>.leaf c
 | .ret v=>.ret v
 | .br b t f=>match b with
  | true=>t.dec
  | false=>f.dec
 | .need p t=>.need p t.dec
 | .all f=>.all fun hs=>(f hs).dec
 | .stuck=>.stuck


end Sx
end
noncomputable section
open Go
namespace Sx
def rdFn (f : FuncId) : Rd1 Unit where
 read x := match x with
  | .fn g [] []=>if g == f then some () else none
  | _=>none
 canon _ := .fn f [] []
 right H E x b h hok := by
  split at h
  ·split at h
   ·rename_i hg
    simp at hg
    subst hg
    exact ⟨rfl,trivial,trivial⟩
   ·cases h
  ·cases h
def rdNone : Rd Unit where
 read l := match l with | []=>some () | _=>none
 canon _ := []
 right H E args b h hok := by
  split at h
  ·exact ⟨rfl,trivial⟩
  ·cases h
def spTrue (_ : Unit) : SpecR := .scalar [] (.lb true)
def idxP (l : List Int) (p : Int → Bool) : Int := match l.findIdx? p with
 | some i=>i
 | none=>-1
theorem idxP_any (xs : List Int) (p : Int → Bool) : decide (idxP xs p ≥ 0) = xs.any p := by
 rw [Bool.eq_iff_iff]
 simp only [idxP,ge_iff_le,decide_eq_true_eq]
 cases hf : xs.findIdx? p with
 | none =>
  rw [List.findIdx?_eq_none_iff] at hf
  simp only
  constructor
  ·intro h; omega
  ·intro h
   obtain ⟨x,h1,h2⟩ := List.any_eq_true.1 h
   rw [hf x h1] at h2; cases h2
 | some i =>
  rw [List.findIdx?_eq_some_iff_getElem] at hf
  obtain ⟨hi,h1,_⟩ := hf
  have : xs.any p = true := List.any_eq_true.2 ⟨_,List.getElem_mem hi,h1⟩
  simp only [this,iff_true]
  omega
theorem lb_den {b : Bool} : ∀ E,(SV.lb b).den E = (SV.bool b).den E := fun _=>by simp [SV.den]
theorem ret_lbt {P : Program} {w : World} {H : HV} : (Tree.ret (.lb true)).holds P ⟨w,H⟩ (RetS w H (.lb true)) := ret_S fun _ _=>rfl
theorem vecIn_to {P : Program} {C : Ctx} {R : Value → World → Prop} (K : Nat) (e : TypeId) (sz : Nat) (blk : Option Nat) (off : Nat) {c : Conf} (c' : Conf)
  (hc : (vecIn K e sz blk off c).map (fun c=>sortC (renC c)) = some c') (h : Runs P C c' R) : Runs P C c R := by
 cases hv : vecIn K e sz blk off c with
 | none=>rw [hv] at hc; cases hc
 | some c2 =>
  rw [hv] at hc
  cases hc
  exact vecIn_sound hv (renC_sound (sortC_sound h))
theorem vecIn2_to {P : Program} {C : Ctx} {R : Value → World → Prop} (K : Nat) (e : TypeId) (sz : Nat) (blk : Option Nat) (off : Nat) (K' : Nat) (e' : TypeId) (sz' : Nat) (blk' : Option Nat) (off' : Nat) {c : Conf} (c' : Conf)
  (hc : ((vecIn K e sz blk off c).bind (vecIn K' e' sz' blk' off')).map (fun c=>sortC (renC c)) = some c') (h : Runs P C c' R) : Runs P C c R := by
 cases hv : vecIn K e sz blk off c with
 | none=>rw [hv] at hc; cases hc
 | some c2 =>
  rw [hv] at hc
  exact vecIn_sound hv (vecIn_to K' e' sz' blk' off' c' hc h)
theorem vecTo {P : Program} {C : Ctx} {R : Value → World → Prop} (K : Nat) (e : TypeId) (sz : Nat) (blk : Option Nat) (off : Nat) {c : Conf} (c' : Conf)
  (hc : (vecIn K e sz blk off c).map (fun c=>sortC (renC c)) = some c') (h : Runs P C c' R) : Runs P C c R := by
 cases hv : vecIn K e sz blk off c with
 | none=>rw [hv] at hc; cases hc
 | some c2 =>
  rw [hv] at hc
  cases hc
  exact vecIn_sound hv (renC_sound (sortC_sound h))
theorem set_full {α : Type} [Codec α] {d : D} (hd : d.Is α) {i : Nat} (hi : i < (d.to α).length) {xs : List D} {x : α} (hl : xs.length = Codec.sz α) (hc : Codec.ok α xs) (hx : Codec.dec xs = x) :
  (d.setCells i 0 xs).Is α ∧ (d.setCells i 0 xs).to α = (d.to α).set i x := by
 have hz := hd.size hi
 have hr := rows_of hd
 have hl' := rows_len hr
 have e : cutIn (d.rows.getD i []) 0 xs = xs := by
  have h1 : d.rows.getD i [] = d.rows[i] := by simp [hl',hi]
  have h2 := Codec.len (α := α) d.rows[i] (hr.1 _ (List.getElem_mem _))
  rw [h1]
  simp only [cutIn,List.take_zero,List.nil_append,Nat.zero_add]
  rw [List.drop_eq_nil_of_le (by omega),List.append_nil]
 have := is_of (α := α) (h := d.hd) (s := d.sz) (rows := d.rows.set i xs) (xs := (d.to α).set i x) hz ⟨fun r hr'=>by
  rcases List.mem_or_eq_of_mem_set hr' with h | h
  ·exact hr.1 r h
  ·rw [h]; exact hc,by rw [List.map_set,hr.2,hx]⟩
 unfold D.setCells
 rw [e]
 exact this
structure Co where
 nodes : Int
 round : Int
 phase : Int
 deadline : Int
 positions : List Int
 seen : List Bool
 valid : Bool
deriving DecidableEq
def badPos (p : Int) : Bool := decide (p < 0) || decide (p > 4096)
def checkCo (c : Co) : Int :=
 if c.nodes < 1 ∨ c.nodes > 8 ∨ okTime c.round = false ∨ okTime c.deadline = false ∨ c.phase < 0 ∨ c.phase > 2 then 3
 else if (c.positions.length : Int) ≠ c.nodes ∨ (c.seen.length : Int) ≠ c.nodes ∨ (c.valid = true ∧ c.phase ≠ 0) then 3
 else if c.positions.any badPos = true then 3
 else 0
def newCo (n : Int) : Co × Int := if n < 1 ∨ n > 8 then (⟨0,0,0,0,[],[],false⟩,2) else (⟨n,0,0,0,List.replicate n.toNat 0,List.replicate n.toNat false,false⟩,0)
def zCo : Co := ⟨0,0,0,0,[],[],false⟩
def allMsgs (c : Co) (kind : Int) : List Msg := (List.range c.nodes.toNat).map fun (i : Nat)=>⟨kind,c.nodes,(i : Int),c.round,0,0,[],[]⟩
def startCo (c : Co) (now patience : Int) : Co × List Msg × Int :=
 if checkCo c ≠ 0 then (zCo,[],3)
 else if okTime now = false ∨ patience < 1 ∨ patience > 1073741824 - now then (zCo,[],24)
 else if c.phase ≠ 0 then (zCo,[],26)
 else if c.round = 1073741824 then (zCo,[],6)
 else
  let n : Co := { (newCo c.nodes).1 with round := c.round + 1,phase := 1,deadline := now + patience }
  (n,allMsgs n 1,0)
def resultCo (c : Co) : List Int × Bool := if checkCo c ≠ 0 ∨ c.valid = false then ([],false) else (c.positions,true)
structure CoD where
 n : Int
 r : Int
 p : Int
 dl : Int
 d : D
 s : D
 v : Bool
def CoD.co (x : CoD) : Co := ⟨x.n,x.r,x.p,x.dl,x.d.to Int,x.s.to Bool,x.v⟩
def rdCo : Rd1 CoD where
 read x := match x with
  | .agg [.int .i64 n,.int .i64 r,.int .i64 p,.int .i64 dl,d,s,v]=>match rdD.read d,rdD.read s,rdBool.read v with
   | some d,some s,some v=>some ⟨n,r,p,dl,d,s,v⟩
   | _,_,_=>none
  | _=>none
 canon x := .agg [.int .i64 x.n,.int .i64 x.r,.int .i64 x.p,.int .i64 x.dl,.dat x.d,.dat x.s,.bool x.v]
 right H E x b h hok := by
  split at h
  ·split at h
   ·rename_i hd hs hv
    cases h
    obtain ⟨h1,h2⟩ := rdD.right H E _ _ hd hok.2.2.2.2.1
    obtain ⟨h3,h4⟩ := rdD.right H E _ _ hs hok.2.2.2.2.2.1
    obtain ⟨h5,h6⟩ := rdBool.right H E _ _ hv hok.2.2.2.2.2.2.1
    exact ⟨by simp only [SV.den,SV.denL,h1,h3,h5,rdD,rdBool],trivial,trivial,trivial,trivial,h2,h4,trivial,trivial⟩
   ·cases h
  ·cases h
def spIdxBadC (x : D × Unit) : SpecR := .scalar [x.1.Is Int ∧ x.1.len ≤ 1048576] (.int .i64 (idxP (x.1.to Int) badPos))
def spAnyBadC (x : D × Unit) : SpecR := .scalar [x.1.Is Int ∧ x.1.len ≤ 1048576] (.bool ((x.1.to Int).any badPos))
def spCC (x : CoD) : SpecR := .scalar [x.d.Is Int ∧ x.s.Is Bool] (.int .i64 (checkCo x.co))
def spSameInts (x : D × D) : SpecR := .scalar [x.1.Is Int ∧ x.2.Is Int ∧ x.1.len ≤ 1048576] (.bool (decide (x.1.to Int = x.2.to Int)))
def coSV (d s : D) (c : Co) : SV := .agg [.int .i64 c.nodes,.int .i64 c.round,.int .i64 c.phase,.int .i64 c.deadline,.dat (d.like c.positions),.dat (s.like c.seen),.bool c.valid]
def spNewCo (n : Int) : SpecR := .data [] fun ds=>.tup [coSV (ds 0) (ds 1) (newCo n).1,.int .i64 (newCo n).2]
end Sx
end
noncomputable section
namespace Sx
open Go RowKit
def cellOk (m : Mem) : SV → Bool
 | .int ..=>true
 | .bool _=>true
 | .lb _=>true
 | .str _=>true
 | .nils=>true
 | .dat _=>true
 | .vec j=>match m.get j with
  | some (.arr ..)=>true
  | some (.pub _)=>true
  | _=>false
 | _=>false

def cellsOk (m : Mem) : List SV → Bool
 | []=>true
 | c :: r=>cellOk m c && cellsOk m r
abbrev PSpec := List SV → List SV → Option (List Prop × ((Nat → D) → SV))
def rowD (b : Nat) (row : List D) : D := .slc (some (⟨b,0,none⟩,1)) row.length [row]

def PLaw (P : Program) (f : FuncId) (spec : PSpec) : Prop :=
 Bodied P f = true ∧ ∀ (H : HV) (E : Env) (b : Nat) (row : List D) (cs args : List SV),(rowD b row).Ok H → (∀ o,row.length ≤ o → H b o = none) → SV.denL E cs = row.map D.val → SV.OkL H args →
  match spec cs args with
  | some (ps,g)=>(∀ p,p ∈ ps → p) → PCall P f H (SV.denL E (.elt (rowD b row) 0 0 :: args)) fun H' u =>
    ∃ hs,u = (g hs).den E ∧ ∀ H2,(∀ b' o v,b' ≠ b → H' b' o = some v → H2 b' o = some v) → (g hs).Ok H2
  | none=>True

def pCtr (spec : PSpec) : Ctr := fun args _ m =>
 match args with
 | .ptr k 0 :: rest=>match m.get k with
  | some (.cells _ cs)=>match cellsOk m cs with
   | true=>match spec cs (closeL (pubsR (leavesL rest) m) rest) with
    | some (ps,g)=>.all ps fun hs=>(g hs,pubsR (leavesL rest) m)
    | none=>.bad
   | false=>.bad
  | _=>.bad
 | _=>.bad

theorem pCtr_ro {spec : PSpec} : CtrRO (pCtr spec) := by
 intro args key m h
 unfold pCtr
 split
 ·rename_i heq
  split at heq
  ·split at heq
   ·split at heq
    ·split at heq <;> cases heq
    ·cases heq
   ·cases heq
  ·cases heq
 ·rename_i heq
  split at heq
  ·split at heq
   ·split at heq
    ·split at heq
     ·cases heq
      intro hs _
      simp only [pubsR_ro h]
     ·cases heq
    ·cases heq
   ·cases heq
  ·cases heq
 ·trivial

theorem cell_d {C : Ctx} {m : Mem} {E : Env} {H H' : HV} {w : World} (g : Good C m E H w) (hle : HLe H H') {c : SV} (hc : cellOk m c = true) (hok : c.Ok H) : ∃ d : D,d.val = c.den E ∧ d.Ok H' := by
 cases c <;> simp only [cellOk,Bool.false_eq_true] at hc
 case int k n=>exact ⟨.int k n,by simp [D.val,SV.den],.int k n⟩
 case bool b=>exact ⟨.bool b,by simp [D.val,SV.den],.bool b⟩
 case lb b=>exact ⟨.bool b,by simp [D.val,SV.den],.bool b⟩
 case str s=>exact ⟨.str s,by simp [D.val,SV.den],.str s⟩
 case nils=>exact ⟨.slc none 0 [],by simp [D.val,hval,SV.den],.nil 0⟩
 case dat d=>exact ⟨d,by simp [SV.den],hok.1.mono hle⟩
 case vec j =>
  split at hc
  ·rename_i e d hg
   obtain ⟨h,sz,rows,rfl,h2,h3,h4,h5,h6⟩ := g.own j _ (Mem.get_mem hg)
   cases h with
   | none =>
    have hn : rows.length = 0 := by
     rcases h3.2 with h | ⟨g',cap,cur,h,_⟩
     ·exact h.2
     ·simp [D.val,hval] at h
    exact ⟨.slc none 0 [],by simp [D.val,hval,SV.den,h2],.nil 0⟩
   | some ac =>
    obtain ⟨a,c⟩ := ac
    have hn : rows.length ≤ c := by
     rcases h3.2 with h | ⟨g',cap,cur,h,_,_,hcap,_⟩
     ·have := h.1; simp [D.val,hval] at this
     ·simp only [D.val,hval,Value.slice.injEq] at h
      rw [h.2.2]; exact hcap
    refine ⟨.slc (some (a,c)) 0 (List.replicate rows.length []),by simp [D.val,hval,SV.den,h2],.slc a c 0 _ (fun _=>by rw [(h6 a c rfl).1]) (by simpa using hn) (fun r hr=>by rw [List.eq_of_mem_replicate hr]; rfl) (fun i j r x hi hj=>?_) (fun r hr x hx=>?_)⟩
    ·have := List.eq_of_mem_replicate (List.mem_of_getElem? hi)
     subst this
     simp at hj
    ·have := List.eq_of_mem_replicate hr
     subst this
     cases hx
  ·rename_i d hg
   obtain ⟨⟨h,sz,rows,rfl,h2⟩,h3⟩ := g.own j _ (Mem.get_mem hg)
   exact ⟨_,by simp [D.val,SV.den,h2],h3.mono hle⟩
  ·cases hc

theorem cells_d {C : Ctx} {m : Mem} {E : Env} {H H' : HV} {w : World} (g : Good C m E H w) (hle : HLe H H') : ∀ {cs : List SV},cellsOk m cs = true → SV.OkL H cs → ∃ row : List D,row.map D.val = SV.denL E cs ∧ ∀ d,d ∈ row → d.Ok H'
 | [],_,_=>⟨[],by simp [SV.denL],by simp⟩
 | c :: r,hc,hok=>by
  simp only [cellsOk,Bool.and_eq_true] at hc
  obtain ⟨d,h1,h2⟩ := cell_d g hle hc.1 hok.1
  obtain ⟨row,h3,h4⟩ := cells_d g hle hc.2 hok.2
  refine ⟨d :: row,by simp [SV.denL,h1,h3],fun x hx=>?_⟩
  rcases List.mem_cons.1 hx with rfl | hx
  ·exact h2
  ·exact h4 x hx

theorem get_pub_cells {m : Mem} {k : Nat} {t : TypeId} {cs : List SV} (h : m.get k = some (.cells t cs)) (x : SV) : (pubR m x).get k = some (.cells t cs) := by
 unfold pubR
 split
 ·rename_i j
  split
  ·rename_i e d hj
   have hne : k ≠ j := by rintro rfl; rw [h] at hj; cases hj
   rw [Mem.get_set hj]
   simp [hne,h]
  ·exact h
 ·exact h

theorem get_pubs_cells {k : Nat} {t : TypeId} {cs : List SV} : ∀ (l : List SV) {m : Mem},m.get k = some (.cells t cs) → (pubsR l m).get k = some (.cells t cs)
 | [],_,h=>h
 | x :: r,_,h=>get_pubs_cells r (get_pub_cells h x)

theorem pCtr_ok {P : Program} {f : FuncId} {spec : PSpec} (h : PLaw P f spec) : CtrOk P f (pCtr spec) := by
 refine ⟨bodied_spec h.1,fun C E H w args key m g hargs hk hk2=>?_,pCtr_ro⟩
 unfold CallRight
 have hctr : (∃ k rest t cs ps gg,args = .ptr k 0 :: rest ∧ m.get k = some (.cells t cs) ∧ cellsOk m cs = true ∧ spec cs (closeL (pubsR (leavesL rest) m) rest) = some (ps,gg) ∧
   pCtr spec args key m = .all ps fun hs=>(gg hs,pubsR (leavesL rest) m)) ∨ pCtr spec args key m = .bad := by
  unfold pCtr
  split
  ·rename_i k rest
   split
   ·rename_i t cs hg
    split
    ·rename_i hcs
     split
     ·rename_i ps gg hs
      exact .inl ⟨k,rest,t,cs,ps,gg,rfl,hg,hcs,hs,rfl⟩
     ·exact .inr rfl
    ·exact .inr rfl
   ·exact .inr rfl
  ·exact .inr rfl
 rcases hctr with ⟨k,rest,t,cs,ps,gg,rfl,hget,hcs,hspec,he⟩ | he
 ·rw [he]
  simp only
  intro hp
  obtain ⟨H1,hle,g1,nw⟩ := pubsR_spec (leavesL rest) g
  have hpm := pubsR_mem (leavesL rest) (m := m)
  obtain ⟨e1,e2⟩ := closeL_spec g1 rest (SV.OkL.mono hle _ hargs.2)
  obtain ⟨c1,c2,c3,c4⟩ := g1.own k _ (Mem.get_mem (get_pubs_cells (leavesL rest) hget))
  -- the cells as public ones
  let Hp : HV := fun b o=>if b = E.b k then (SV.denL E cs)[o]? else H1 b o
  have hHp : HLe H1 Hp := fun b o v hv=>by
   have : b ≠ E.b k := by rintro rfl; rw [c3] at hv; cases hv
   simp only [Hp,this,if_false,hv]
  obtain ⟨g0own1,g0own2,g0own3,g0ok⟩ := g.own k _ (Mem.get_mem hget)
  obtain ⟨row,r1,r2⟩ := cells_d g (hle.trans hHp) hcs g0ok
  have hrow : (rowD (E.b k) row).Ok Hp := by
   refine .slc _ 1 _ _ (fun _=>rfl) (by simp) (fun r hr=>by rw [List.mem_singleton.1 hr]) (fun i j r x hi hj=>?_) (fun r hr x hx=>by rw [List.mem_singleton.1 hr] at hx; exact r2 x hx)
   have hi0 : i = 0 := by
    cases i with
    | zero=>rfl
    | succ i=>simp at hi
   subst hi0
   simp only [List.getElem?_cons_zero,Option.some.injEq] at hi
   subst hi
   simp only [Hp,if_true,← r1]
   simp [hj]
  have hmem : InMem Hp w := fun b o v hv=>by
   simp only [Hp] at hv
   split at hv
   ·rename_i hb
    subst hb
    simp only [World.cell?,c2]
    simpa using hv
   ·exact g1.cell b o v hv
  have hl := h.2 Hp E (E.b k) row cs (closeL (pubsR (leavesL rest) m) rest) hrow (fun o ho=>by
   have : row.length = (SV.denL E cs).length := by rw [← r1]; simp
   simp only [Hp,if_true]
   exact List.getElem?_eq_none (by omega)) r1.symm (SV.OkL.mono hHp _ e2)
  rw [hspec] at hl
  have hc := hl hp w hmem
  have eargs : SV.denL E (.elt (rowD (E.b k) row) 0 0 :: closeL (pubsR (leavesL rest) m) rest) = SV.denL E (.ptr k 0 :: rest) := by
   simp only [SV.denL,e1,SV.den,rowD,D.addr,D.hd]
   simp
  rw [eargs] at hc
  refine Calls.mono hc fun e w' ⟨u,H',he',ha,hs,hu,hok⟩=>?_
  let H2 : HV := fun b o=>if b = E.b k then none else H' b o
  have hle2 : HLe H1 H2 := fun b o v hv=>by
   have hb : b ≠ E.b k := by rintro rfl; rw [c3] at hv; cases hv
   simp only [H2,hb,if_false]
   exact ha.le b o v (hHp b o v hv)
  have hfr : ∀ b o v,H2 b o = some v → H1 b o = some v ∨ w.heap.size ≤ b := fun b o v hv=>by
   simp only [H2] at hv
   split at hv
   ·cases hv
   ·rename_i hb
    rcases ha.fresh b o v hv with h3 | h3
    ·simp only [Hp,hb,if_false] at h3; exact .inl h3
    ·exact .inr h3
  have hcell : ∀ b o v,H2 b o = some v → w'.cell? ⟨b,o,none⟩ = some v := fun b o v hv=>by
   simp only [H2] at hv
   split at hv
   ·cases hv
   ·exact ha.cell b o v hv
  refine ⟨hs,E,H2,by rw [he',hu],Agree.refl _ _,hle.trans hle2,g1.call ha.below hle2 hfr hcell,hok H2 (fun b' o v hb hv=>by simp only [H2,hb,if_false]; exact hv),ha.below.size,fun b hb _=>ha.below.block b hb,fun b x v hv=>?_,
   fun k o h=>.inr (hpm k o h).1,fun k o h hl=>.inr ⟨k,o,(hpm k o h).2 hl,hl,rfl⟩,ha.below.os,ha.below.tape,ha.below.output⟩
  rcases hfr b x v hv with h1 | h1
  ·exact (nw b x v h1).imp id .inr
  ·exact .inr (.inl h1)
 ·rw [he]; trivial
end Sx
end
noncomputable section
open Go
namespace Sx
def msgsTo (n r kind : Int) : List Msg := (List.range n.toNat).map fun (i : Nat)=>⟨kind,n,(i : Int),r,0,0,[],[]⟩
theorem allMsgs_eq (c : Co) (kind : Int) : allMsgs c kind = msgsTo c.nodes c.round kind := rfl
def spAllP : PSpec := fun cs args=>match cs with
 | .int .i64 n :: .int .i64 r :: _=>match args with
  | [.int .i64 k]=>match cs.length with
   | 7=>some ([n ≤ 8],fun ds=>.dat ((ds 0).like (msgsTo n r k)))
   | _=>none
  | _=>none
 | _=>none
def spAll2 (x : CoD × Int) : SpecR := .data [x.1.n ≤ 8] fun ds=>.dat ((ds 0).like (msgsTo x.1.n x.1.r x.2))
def spRes (x : CoD) : SpecR := .data [x.d.Is Int ∧ x.s.Is Bool] fun ds=>.tup [.dat ((ds 0).like (resultCo x.co).1),.bool (resultCo x.co).2]
def spStart (x : CoD × Int × Int) : SpecR := .data [x.1.d.Is Int ∧ x.1.s.Is Bool] fun ds =>
 .tup [coSV (ds 0) (ds 1) (startCo x.1.co x.2.1 x.2.2).1,.dat ((ds 2).like (startCo x.1.co x.2.1 x.2.2).2.1),.int .i64 (startCo x.1.co x.2.1 x.2.2).2.2]
def spSameCo (x : CoD × CoD) : SpecR := .scalar [x.1.d.Is Int ∧ x.1.s.Is Bool ∧ x.2.d.Is Int ∧ x.2.s.Is Bool ∧ x.1.d.len ≤ 1048576 ∧ x.1.s.len ≤ 1048576] (.bool (decide (x.1.co = x.2.co)))
def spSameMsgs3 (x : D × D) : SpecR := .scalar [x.1.Is Msg ∧ x.2.Is Msg ∧ x.1.len ≤ 1048576 ∧ (∀ m,m ∈ x.1.to Msg → m.body = [] ∧ m.values = []) ∧ ∀ m,m ∈ x.2.to Msg → m.body = []] (.bool (decide (x.1.to Msg = x.2.to Msg)))
def ctB : Ctrs := [(17,ctrOf (rdCo.one.sp spCC)),(18,ctrOf (rdCo.one.sp spCC)),(19,ctrOf (rdInt.one.sp spNewCo)),(20,ctrOf (rdInt.one.sp spNewCo)),(23,ctrOf ((rdD.two rdD).sp spSameInts)),
 (50,pCtr spAllP),(51,ctrOf ((rdCo.two rdInt).sp spAll2)),(54,oCtr (spClone Int 3)),(82,oCtr (spClone Bool 4))]
structure Mb where
 round : Int
 position : Int
 thawed : Int
 issued : Int
 frozen : Bool
 upto : Int
 waiting : List Int
 held : List Int
deriving DecidableEq
def badW (issued : Int) (l : List Int) (i : Nat) : Bool := decide (l.getD i 0 < 0) || decide (l.getD i 0 ≥ issued) || (decide (0 < i) && decide (l.getD i 0 ≤ l.getD (i - 1) 0))
def badH (issued : Int) (w l : List Int) (i : Nat) : Bool := decide (l.getD i 0 < 0) || decide (l.getD i 0 ≥ issued) || (l.take i).contains (l.getD i 0) || w.contains (l.getD i 0)
def headMb (m : Mb) : Bool := decide (¬(okTime m.round = false ∨ okTime m.upto = false ∨ m.thawed < 0 ∨ m.thawed > m.round ∨ m.position < 0 ∨ m.position > m.issued ∨ m.issued > 4096 ∨ (m.frozen = false ∧ m.held ≠ [])))
def checkMb (m : Mb) : Int :=
 if headMb m = false then 3
 else if (List.range m.waiting.length).any (badW m.issued m.waiting) = true then 3
 else if (List.range m.held.length).any (badH m.issued m.waiting m.held) = true then 3
 else 0
def issueMb (m : Mb) : Mb × Int :=
 if checkMb m ≠ 0 ∨ m.issued = 4096 then (m,-1) else ({ m with waiting := m.waiting ++ [m.issued],issued := m.issued + 1 },m.issued)
def thawMb (m : Mb) : Mb × List Int := ({ m with frozen := false,held := [] },m.held)
def ansTo (msg : Msg) (kind value : Int) : List Msg := [⟨kind,msg.to,msg.frm,msg.number,value,0,[],[]⟩]
def endMb (m : Mb) (now : Int) (msg : Msg) : Mb × List Int × List Msg :=
 if m.frozen = false then (m,[],ansTo msg 4 (if m.thawed = m.round then 1 else 0))
 else if now < m.upto then ({ m with thawed := m.round,frozen := false,held := [] },m.held,ansTo msg 4 1)
 else ({ m with frozen := false,held := [] },m.held,ansTo msg 4 0)
def clampT (lo n : Int) : Int := min (max n lo) 1073741824
def obeyMb (m : Mb) (now patience : Int) (msg : Msg) : Mb × List Int × List Msg :=
 if checkMb m ≠ 0 ∨ msg.number < 1 ∨ msg.number > 1073741824 then (m,[],[])
 else if msg.kind = 1 then
  if msg.number > m.round then ({ m with round := msg.number,position := m.issued,frozen := true,upto := min (clampT 0 now + clampT 1 patience) 1073741824 },[],ansTo msg 2 m.issued)
  else if msg.number = m.round ∧ m.frozen = true then (m,[],ansTo msg 2 m.position)
  else (m,[],[])
 else if msg.kind = 3 then
  if msg.number = m.round then endMb m (clampT 0 now) msg
  else if msg.number > m.round then (m,[],ansTo msg 4 0)
  else (m,[],[])
 else if msg.kind = 24 then
  if msg.number = m.round ∧ m.frozen = true then ({ m with frozen := false,held := [] },m.held,[])
  else (m,[],[])
 else (m,[],[])
def giveUpCo (c : Co) : Co × List Msg := ({ c with phase := 0,valid := false },msgsTo c.nodes c.round 24)
def collectCo (c : Co) (now : Int) (m : Msg) : Co × List Msg :=
 if checkCo c ≠ 0 ∨ c.phase = 0 ∨ now ≥ c.deadline ∨ m.frm < 0 ∨ m.frm ≥ c.nodes ∨ m.number ≠ c.round then (c,[])
 else if m.kind = 2 then
  if c.phase ≠ 1 ∨ m.value < 0 ∨ m.value > 4096 ∨ c.seen.getD m.frm.toNat true = true then (c,[])
  else if (c.seen.set m.frm.toNat true).all id = true then
   ({ c with positions := c.positions.set m.frm.toNat m.value,phase := 2,seen := List.replicate c.nodes.toNat false },msgsTo c.nodes c.round 3)
  else ({ c with positions := c.positions.set m.frm.toNat m.value,seen := c.seen.set m.frm.toNat true },[])
 else if m.kind = 4 then
  if c.phase ≠ 2 then (c,[])
  else if m.value ≠ 1 then giveUpCo c
  else if (c.seen.set m.frm.toNat true).all id = true then ({ c with seen := c.seen.set m.frm.toNat true,phase := 0,valid := true },[])
  else ({ c with seen := c.seen.set m.frm.toNat true },[])
 else (c,[])
def expireCo (c : Co) (now : Int) : Co × List Msg := if checkCo c ≠ 0 ∨ c.phase = 0 ∨ now < c.deadline then (c,[]) else giveUpCo c
structure MbD where
 r : Int
 p : Int
 t : Int
 i : Int
 f : Bool
 u : Int
 w : D
 h : D
def MbD.mb (x : MbD) : Mb := ⟨x.r,x.p,x.t,x.i,x.f,x.u,x.w.to Int,x.h.to Int⟩
def rdMb : Rd1 MbD where
 read x := match x with
  | .agg [.int .i64 r,.int .i64 p,.int .i64 t,.int .i64 i,f,.int .i64 u,w,h]=>match rdBool.read f,rdD.read w,rdD.read h with
   | some f,some w,some h=>some ⟨r,p,t,i,f,u,w,h⟩
   | _,_,_=>none
  | _=>none
 canon x := .agg [.int .i64 x.r,.int .i64 x.p,.int .i64 x.t,.int .i64 x.i,.bool x.f,.int .i64 x.u,.dat x.w,.dat x.h]
 right H E x b h hok := by
  split at h
  ·split at h
   ·rename_i hf hw hh
    cases h
    obtain ⟨h1,h2⟩ := rdBool.right H E _ _ hf hok.2.2.2.2.1
    obtain ⟨h3,h4⟩ := rdD.right H E _ _ hw hok.2.2.2.2.2.2.1
    obtain ⟨h5,h6⟩ := rdD.right H E _ _ hh hok.2.2.2.2.2.2.2.1
    exact ⟨by simp only [SV.den,SV.denL,h1,h3,h5,rdD,rdBool],trivial,trivial,trivial,trivial,trivial,trivial,h4,h6,trivial⟩
   ·cases h
  ·cases h
def mbSV (w h : D) (m : Mb) : SV := .agg [.int .i64 m.round,.int .i64 m.position,.int .i64 m.thawed,.int .i64 m.issued,.bool m.frozen,.int .i64 m.upto,.dat (w.like m.waiting),.dat (h.like m.held)]
def MbD.Right (x : MbD) : Prop := x.w.Is Int ∧ x.h.Is Int ∧ x.w.len ≤ 1048575 ∧ x.h.len ≤ 1048575
def spHas21 (x : D × Int) : SpecR := .scalar [x.1.Is Int ∧ x.1.len ≤ 1048576] (.bool ((x.1.to Int).contains x.2))
def spIdx21 (x : D × Int) : SpecR := .scalar [x.1.Is Int ∧ x.1.len ≤ 1048576] (.int .i64 (idxP (x.1.to Int) fun y=>x.2 == y))
def spEvery (x : D) : SpecR := .scalar [x.Is Bool ∧ x.len ≤ 1048576] (.bool ((x.to Bool).all id))
def spCM (x : MbD) : SpecR := .scalar [x.Right] (.int .i64 (checkMb x.mb))
def spIssue (x : MbD) : SpecR := .data [x.Right] fun ds=>.tup [mbSV (ds 0) (ds 1) (issueMb x.mb).1,.int .i64 (issueMb x.mb).2]
def spThaw (x : MbD) : SpecR := .data [x.Right] fun ds=>.tup [mbSV (ds 0) (ds 1) (thawMb x.mb).1,.dat ((ds 2).like (thawMb x.mb).2)]
def spAns (x : MsgD × Int × Int) : SpecR := .data [] fun ds=>.dat ((ds 0).like (ansTo x.1.msg x.2.1 x.2.2))
def spEnd (x : MbD × Int × MsgD) : SpecR := .data [x.1.Right] fun ds =>
 .tup [mbSV (ds 0) (ds 1) (endMb x.1.mb x.2.1 x.2.2.msg).1,.dat ((ds 2).like (endMb x.1.mb x.2.1 x.2.2.msg).2.1),.dat ((ds 3).like (endMb x.1.mb x.2.1 x.2.2.msg).2.2)]
def spObey (x : MbD × Int × Int × MsgD) : SpecR := .data [x.1.Right] fun ds =>
 .tup [mbSV (ds 0) (ds 1) (obeyMb x.1.mb x.2.1 x.2.2.1 x.2.2.2.msg).1,.dat ((ds 2).like (obeyMb x.1.mb x.2.1 x.2.2.1 x.2.2.2.msg).2.1),.dat ((ds 3).like (obeyMb x.1.mb x.2.1 x.2.2.1 x.2.2.2.msg).2.2)]
def spGive (x : CoD) : SpecR := .data [x.d.Is Int ∧ x.s.Is Bool ∧ x.n ≤ 8] fun ds=>.tup [coSV (ds 0) (ds 1) (giveUpCo x.co).1,.dat ((ds 2).like (giveUpCo x.co).2)]
def spColl (x : CoD × Int × MsgD) : SpecR := .data [x.1.d.Is Int ∧ x.1.s.Is Bool] fun ds =>
 .tup [coSV (ds 0) (ds 1) (collectCo x.1.co x.2.1 x.2.2.msg).1,.dat ((ds 2).like (collectCo x.1.co x.2.1 x.2.2.msg).2)]
def spExp (x : CoD × Int) : SpecR := .data [x.1.d.Is Int ∧ x.1.s.Is Bool] fun ds=>.tup [coSV (ds 0) (ds 1) (expireCo x.1.co x.2).1,.dat ((ds 2).like (expireCo x.1.co x.2).2)]
def spSameMb (x : MbD × MbD) : SpecR := .scalar [x.1.Right ∧ x.2.Right] (.bool (decide (x.1.mb = x.2.mb)))
def ctM : Ctrs := (38,ctrOf (rdMb.one.sp spCM)) :: (39,ctrOf (rdMb.one.sp spCM)) :: (34,ctrOf ((rdD.two rdInt).sp spHas21)) :: (73,ctrOf ((rdD.two rdInt).sp spHas21)) :: (58,ctrOf ((rdMsg.three rdInt rdInt).sp spAns)) ::
 (59,ctrOf ((rdMb.three rdInt rdMsg).sp spEnd)) :: (60,ctrOf (rdMb.one.sp spThaw)) :: (64,ctrOf (rdD.one.sp spEvery)) :: (65,ctrOf (rdCo.one.sp spGive)) :: ctB
end Sx
end
noncomputable section
namespace Sx
open Go RowKit Go.Sort
def Deletes (P : Program) (f : FuncId) : Prop := ∀ (blk cap i j : Nat) (zs : List Int) (w : World),Holds (Value.int .i64) w blk 0 zs.toArray → zs.length ≤ cap → cap ≤ 9223372036854775807 → i ≤ j → j ≤ zs.length →
 Calls P f #[.slice (some ⟨blk,0,none⟩) zs.length cap,.int .i64 i,.int .i64 j] w fun e w'=>e = .returned (.slice (some ⟨blk,0,none⟩) (zs.length - (j - i)) cap) ∧ ∃ q,w' = putRow (Value.int .i64) (Sort.ahead w q) blk 0 (zs.take i ++ zs.drop j ++ List.replicate (j - i) 0).toArray

def dCtr (e : TypeId) : Ctr := fun args key m=>match args with
 | [.vec k,.int .i64 i,.int .i64 j]=>match m.get k with
  | some (.arr e' d)=>if e' = e then .all [d.Is Int ∧ 0 ≤ i ∧ i < j ∧ j ≤ (d.len : Int)] fun _=>(.vec key,(key,.arr e (.slc d.hd d.sz (d.rows.take i.toNat ++ d.rows.drop j.toNat))) :: m.del k) else .bad
  | _=>.bad
 | _=>.bad

theorem roM_arr : ∀ {m : Mem} {k : Nat} {e : TypeId} {d : D},roM m = true → m.get k = some (.arr e d) → False
 | [],_,_,_,_,h=>by simp [Mem.get] at h
 | (j,o) :: r,k,e,d,h,hg=>by
  simp only [Mem.get] at hg
  split at hg
  ·cases hg; simp [roM] at h
  ·cases o <;> simp [roM] at h
   ·exact roM_arr h hg
   ·exact roM_arr h hg
   ·exact roM_arr h hg

theorem dCtr_ro (e : TypeId) : CtrRO (dCtr e) := by
 intro args key m h
 have hb : dCtr e args key m = .bad := by
  unfold dCtr
  split
  ·split
   ·rename_i hg
    exact (roM_arr h hg).elim
   ·rfl
  ·rfl
 rw [hb]
 trivial


theorem flat_ints : ∀ {rows : List (List D)} {zs : List Int},SRows Int rows zs → flat rows = zs.map (Value.int .i64)
 | [],zs,h=>by rw [← h.2]; rfl
 | r :: rs,zs,h=>by
  obtain ⟨n,rfl⟩ := h.1 r List.mem_cons_self
  have ih := flat_ints (rows := rs) (zs := rs.map (Codec.dec (α := Int))) ⟨fun r hr=>h.1 r (List.mem_cons_of_mem _ hr),rfl⟩
  rw [← h.2,List.map_cons,List.map_cons,← ih]
  rfl

theorem rows_take {α : Type} [Codec α] {rows : List (List D)} {xs : List α} (h : SRows α rows xs) (i : Nat) : SRows α (rows.take i) (xs.take i) :=
 ⟨fun r hr=>h.1 r (List.mem_of_mem_take hr),by rw [List.map_take,h.2]⟩
theorem rows_drop {α : Type} [Codec α] {rows : List (List D)} {xs : List α} (h : SRows α rows xs) (i : Nat) : SRows α (rows.drop i) (xs.drop i) :=
 ⟨fun r hr=>h.1 r (List.mem_of_mem_drop hr),by rw [List.map_drop,h.2]⟩
theorem rows_zero (n : Nat) : SRows Int (List.replicate n [D.int .i64 0]) (List.replicate n 0) :=
 ⟨fun r hr=>by rw [List.eq_of_mem_replicate hr]; exact ⟨0,rfl⟩,by simp [List.map_replicate,Codec.dec,D.getInt]⟩

theorem int_okH {H : HV} {rows : List (List D)} {zs : List Int} (h : SRows Int rows zs) : ∀ r,r ∈ rows → ∀ x,x ∈ r → D.Ok H x := by
 intro r hr x hx
 obtain ⟨n,rfl⟩ := h.1 r hr
 rw [List.mem_singleton.1 hx]
 exact .int _ _
theorem int_len1 {rows : List (List D)} {zs : List Int} (h : SRows Int rows zs) : ∀ r,r ∈ rows → r.length = 1 := by
 intro r hr
 obtain ⟨n,rfl⟩ := h.1 r hr
 rfl

theorem putCells_take {cur : Array Value} {zs : List Int} (h : zs.length ≤ cur.size) : (putCells (Value.int .i64) 0 zs.toArray cur).toList.take zs.length = zs.map (Value.int .i64) := by
 apply List.ext_getElem?
 intro k
 rw [List.getElem?_take]
 by_cases hk : k < zs.length
 ·rw [if_pos hk]
  have hk2 : k < (putCells (Value.int .i64) 0 zs.toArray cur).toList.length := by simp [putCells]; omega
  rw [List.getElem?_eq_getElem hk2]
  simp [putCells,hk]
 ·rw [if_neg hk,List.getElem?_eq_none (by simp; omega)]

theorem dCtr_ok {P : Program} {f : FuncId} {e : TypeId} (hb : ∃ fn,P.funcs[f]? = some fn ∧ fn.body.isSome = true ∧ (fn.name == "runtime.NumGoroutine") = false) (hd : Deletes P f) : CtrOk P f (dCtr e) := by
 refine ⟨hb,fun C E H w args key m g hargs hk hk2=>?_,dCtr_ro e⟩
 unfold CallRight dCtr
 split
 ·rename_i r v m2 heq
  split at heq
  ·split at heq
   ·split at heq <;> cases heq
   ·cases heq
  ·cases heq
 ·rename_i r ps gg heq
  split at heq
  ·rename_i k i j
   split at heq
   ·rename_i e' d hkk
    split at heq
    ·rename_i he
     subst he
     cases heq
     intro hp
     obtain ⟨h0,h1,h2,h3⟩ := hp _ (List.mem_singleton.2 rfl)
     have hmem := Mem.get_mem hkk
     have hown := g.own k _ hmem
     obtain ⟨hd',sz,rows,rfl,hv,how,hl,hk3,ha⟩ := hown
     have hR := rows_of h0
     simp only [D.rows] at hR
     generalize hzs : D.to Int (D.slc hd' sz rows) = zs at hR
     have hrl := rows_len hR
     simp only [D.len,D.rows] at h3
     have hsz : sz = 1 := by
      have h4 : 0 < rows.length := by omega
      have := hl rows[0] (List.getElem_mem h4)
      rw [int_len1 hR _ (List.getElem_mem h4)] at this
      exact this.symm
     subst hsz
     rcases how with ⟨hfl,hcase⟩
     rcases hcase with ⟨hq,h4⟩ | ⟨g',cap,cur,hq,hbase,hg,hnc,hcm,hcs,htake⟩
     ·omega
     ·cases hd' with
      | none=>simp [D.val,hval] at hq
      | some ac =>
       obtain ⟨a,c⟩ := ac
       obtain ⟨rfl,hno⟩ := ha a c rfl
       simp only [D.val,hval,Value.slice.injEq,Option.some.injEq,Addr.mk.injEq] at hq
       obtain ⟨⟨hgb,_,_⟩,_,rfl⟩ := hq
       subst hgb
       rw [flat_ints hR,Nat.mul_one] at htake
       rw [Nat.mul_one] at hcs
       have hH : Holds (Value.int .i64) w (E.b k) 0 zs.toArray := by
        intro t ht
        simp only [List.size_toArray] at ht
        constructor
        ·simp only [World.cell?,hg,Nat.zero_add]
         have h5 : cur[t]? = (zs.map (Value.int .i64))[t]? := by
          rw [← htake,List.getElem?_take,if_pos (by omega),Array.getElem?_toList]
         simp [h5,ht]
        ·simp [World.frozen?,hg]
       obtain ⟨i',rfl⟩ := Int.eq_ofNat_of_zero_le h1
       obtain ⟨j',rfl⟩ := Int.eq_ofNat_of_zero_le (show 0 ≤ j by omega)
       have hcall := hd (E.b k) c i' j' zs w hH (by omega) (by simp only [maxLen] at hcm; omega) (by omega) (by omega)
       have hargs' : (SV.denL E [.vec k,.int .i64 (i' : Int),.int .i64 (j' : Int)]).toArray = #[.slice (some ⟨E.b k,0,none⟩) zs.length c,.int .i64 i',.int .i64 j'] := by
        simp [SV.denL,SV.den,hv,hval,hrl]
       simp only [Int.toNat_natCast]
       rw [hargs']
       refine hcall.mono ?_
       rintro ev w' ⟨rfl,q,hw'⟩
       -- the rows behind the call
       generalize hzs' : (zs.take i' ++ zs.drop j' ++ List.replicate (j' - i') 0) = zs' at hw'
       have hzl : zs'.length = zs.length := by rw [← hzs']; simp; omega
       have hR' : SRows Int (rows.take i' ++ rows.drop j' ++ List.replicate (j' - i') [D.int .i64 0]) zs' := by
        rw [← hzs']
        exact rows_app (rows_app (rows_take hR i') (rows_drop hR j')) (rows_zero _)
       have hheap : w'.heap[E.b k]? = some (.cells (putCells (Value.int .i64) 0 zs'.toArray cur) e' (0,0)) := by
        rw [hw']; simp [putRow,mapBlock,Sort.ahead,Array.getElem?_modify,hg,onCells]
       have hother : ∀ b,b ≠ E.b k → w'.heap[b]? = w.heap[b]? := by
        intro b hb
        rw [hw']; simp [putRow,mapBlock,Sort.ahead,Array.getElem?_modify,Ne.symm hb]
       have hsize : w'.heap.size = w.heap.size := by rw [hw']; simp [putRow,mapBlock,Sort.ahead]
       have hos : w'.os = w.os := by rw [hw']; rfl
       have htp : w'.tape = w.tape := by rw [hw']; rfl
       have hou : w'.output = w.output := by rw [hw']; rfl
       have hrow' := hR'
       have hcs' : (putCells (Value.int .i64) 0 zs'.toArray cur).size = c := by simp [putCells,hcs]
       have g1 : Good C (m.set k (.arr e' (.slc (some (⟨E.b k,0,none⟩,c)) 1 (rows.take i' ++ rows.drop j' ++ List.replicate (j' - i') [D.int .i64 0])))) E H w' := by
        refine g.put hkk hother hos htp hou hsize (by simp [OBlk.Lies,D.hd]) ?_
        refine ⟨some (⟨E.b k,0,none⟩,c),1,_,rfl,by rw [hv]; simp; omega,?_,int_len1 hR',int_okH hR',fun a c' h=>by cases h; exact ⟨rfl,hno⟩⟩
        refine ⟨by rw [flat_ints hR',List.length_map,rows_len hR',Nat.mul_one],.inr ⟨E.b k,c,_,by simp [D.val,hval],hbase,hheap,by rw [rows_len hR',hzl]; omega,hcm,by rw [hcs',Nat.mul_one],?_⟩⟩
        rw [flat_ints hR',rows_len hR',Nat.mul_one]
        exact putCells_take (by rw [hzl,hcs]; omega)
       have hspec := Mem.set_spec (o' := .arr e' (.slc (some (⟨E.b k,0,none⟩,c)) 1 (rows.take i' ++ rows.drop j' ++ List.replicate (j' - i') [D.int .i64 0]))) g.keys hkk
       have hdel := fun j p=>Mem.del_ne (j := j) (p := p) g.keys hmem
       have g2 : Good C (m.del k) E H w' := by
        refine ⟨g1.below,g1.ext,g1.fresh,g1.cell,fun j o hj=>?_,(g.sub (m.del_sub k)).keys,(g.sub (m.del_sub k)).apart,g1.fix⟩
        have h5 := g.own j o (Mem.del_mem hj)
        refine h5.keep (fun hl2=>hother _ ?_)
        exact g.apart (j,o) (k,_) (Mem.del_mem hj) hmem (hdel j o hj) hl2 (by simp [OBlk.Lies,D.hd])
       have hRn : SRows Int (rows.take i' ++ rows.drop j') (zs.take i' ++ zs.drop j') := rows_app (rows_take hR i') (rows_drop hR j')
       have hln : (rows.take i' ++ rows.drop j').length = zs.length - (j' - i') := by rw [rows_len hRn]; simp; omega
       have hka := E.agree_setV key (E.b k) (some (⟨E.b k,0,none⟩,c),(rows.take i' ++ rows.drop j').length)
       have hbE : (E.setV key (E.b k) (some (⟨E.b k,0,none⟩,c),(rows.take i' ++ rows.drop j').length)).b key = E.b k := by simp [Env.setV]
       have hvE : (E.setV key (E.b k) (some (⟨E.b k,0,none⟩,c),(rows.take i' ++ rows.drop j').length)).v key = (some (⟨E.b k,0,none⟩,c),(rows.take i' ++ rows.drop j').length) := by simp [Env.setV]
       have g3 : Good C ((key,.arr e' (.slc (some (⟨E.b k,0,none⟩,c)) 1 (rows.take i' ++ rows.drop j'))) :: m.del k) (E.setV key (E.b k) (some (⟨E.b k,0,none⟩,c),(rows.take i' ++ rows.drop j').length)) H w' := by
        refine g2.cons (Mem.has_del hk) hka (Below.refl _ _) ?_ (fun _ j p hj hlp=>?_)
        ·refine ⟨some (⟨E.b k,0,none⟩,c),1,_,rfl,by rw [hvE],?_,int_len1 hRn,int_okH hRn,fun a c' h=>by cases h; rw [hbE]; exact ⟨rfl,hno⟩⟩
         refine ⟨by rw [flat_ints hRn,List.length_map,rows_len hRn,Nat.mul_one],.inr ⟨E.b k,c,_,by simp [D.val,hval],hbase,hheap,by rw [hln]; omega,hcm,by rw [hcs',Nat.mul_one],?_⟩⟩
         have h6 := putCells_take (cur := cur) (zs := zs') (by rw [hzl,hcs]; omega)
         rw [Nat.mul_one,hln,flat_ints hRn]
         have h7 := congrArg (List.take (zs.length - (j' - i'))) h6
         rw [List.take_take,Nat.min_eq_left (by omega)] at h7
         rw [h7,← List.map_take,← hzs',List.take_append_of_le_length (by simp; omega),List.take_of_length_le (by simp; omega)]
        ·rw [hbE]
         exact (g.apart (j,p) (k,_) (Mem.del_mem hj) hmem (hdel j p hj) hlp (by simp [OBlk.Lies,D.hd])).symm
       refine ⟨fun _=>.bool false,_,H,?_,hka,HLe.refl _,g3,by simp [SV.Ok],?_⟩
       ·have hden : (SV.vec key).den (E.setV key (E.b k) (some (⟨E.b k,0,none⟩,c),(rows.take i' ++ rows.drop j').length)) = .slice (some ⟨E.b k,0,none⟩) (zs.length - (j' - i')) c := by
         simp only [SV.den,hvE,hval]
         rw [hln]
        exact congrArg _ hden.symm
       ·refine ⟨by rw [hsize]; exact Nat.le_refl _,fun b hb hno'=>hother b (fun e1=>hno' k _ hmem (by simp [OBlk.Lies,D.hd]) e1.symm),fun _ _ _ h=>.inl h,fun q o hq=>?_,fun q o hq hl2=>?_,hos,htp,hou⟩
        ·rcases List.mem_cons.1 hq with hq | hq
         ·exact .inl (congrArg Prod.fst hq)
         ·exact .inr ⟨o,Mem.del_mem hq⟩
        ·rcases List.mem_cons.1 hq with hq | hq
         ·have e1 : q = key := congrArg Prod.fst hq
          subst e1
          rw [hbE]; exact .inr ⟨k,_,hmem,by simp [OBlk.Lies,D.hd],rfl⟩
         ·refine .inr ⟨q,o,Mem.del_mem hq,hl2,?_⟩
          exact (hka.1 q (Mem.has_key hk _ (Mem.del_mem hq)).1).1
    ·cases heq
   ·cases heq
  ·cases heq
 ·trivial
end Sx
end
noncomputable section
open Go
namespace Sx
def noMb : Mb := ⟨0,0,0,0,false,0,[],[]⟩
def durMb (m : Mb) (x : Int) : Mb × List Int × Int :=
 if checkMb m ≠ 0 then (noMb,[],3)
 else if m.waiting.contains x = false then (noMb,[],7)
 else if m.frozen = true then ({ m with waiting := m.waiting.filter fun y=>y != x,held := m.held ++ [x] },[],0)
 else ({ m with waiting := m.waiting.filter fun y=>y != x },[x],0)
def relMb (m : Mb) (now : Int) : Mb × List Int := if checkMb m ≠ 0 ∨ m.frozen = false ∨ m.upto > now then (m,[]) else thawMb m
def spDur (x : MbD × Int) : SpecR := .data [x.1.Right] fun ds =>
 .tup [mbSV (ds 0) (ds 1) (durMb x.1.mb x.2).1,.dat ((ds 2).like (durMb x.1.mb x.2).2.1),.int .i64 (durMb x.1.mb x.2).2.2]
def spRls (x : MbD × Int) : SpecR := .data [x.1.Right] fun ds=>.tup [mbSV (ds 0) (ds 1) (relMb x.1.mb x.2).1,.dat ((ds 2).like (relMb x.1.mb x.2).2)]
def ctD : Ctrs := (74,dCtr 3) :: (71,ctrOf ((rdD.two rdInt).sp spIdx21)) :: ctM
def zSec : Sec := ⟨0,0,0,0,0,0,0,0⟩
def volOf (n : Int) : Vol := ⟨List.replicate n.toNat zSec⟩
def imgOf (l : List Int) : List Vol := if sizesErr l ≠ 0 then [] else l.map volOf
def volSizes (l : List Vol) : List Int := l.map fun v=>(v.l.length : Int)
def fitsI (l : List Vol) (w : Wt) : Int := if sizesErr (volSizes l) ≠ 0 then sizesErr (volSizes l) else fitsErr (volSizes l) w
theorem sizesErr_ok {l : List Int} (h : sizesErr l = 0) : 1 ≤ l.length ∧ l.length ≤ 8 ∧ ∀ n,n ∈ l → 1 ≤ n ∧ n ≤ 4096 := by
 unfold sizesErr at h
 split at h
 ·cases h
 ·split at h
  ·cases h
  ·rename_i h1 h2
   refine ⟨by omega,by omega,fun n hn=>?_⟩
   simp only [Bool.not_eq_true,List.any_eq_false] at h2
   have := h2 n hn
   simp only [badSize,Bool.or_eq_false_iff,decide_eq_false_iff_not] at this
   omega
theorem volSizes_img {l : List Int} (h : sizesErr l = 0) : volSizes (imgOf l) = l := by
 unfold imgOf volSizes
 rw [if_neg (by simp [h]),List.map_map]
 conv=>rhs; rw [← List.map_id l]
 refine List.map_congr_left fun n hn=>?_
 have := (sizesErr_ok h).2.2 n hn
 simp [volOf]; omega
theorem fitsI_img {l : List Int} (h : sizesErr l = 0) (w : Wt) : fitsI (imgOf l) w = fitsErr l w := by
 unfold fitsI
 rw [volSizes_img h,if_neg (by simp [h])]
theorem fitsErr_wt (l : List Int) (v s : Int) (e : D) : fitsErr l (WtD.wt ⟨v,s,e⟩) = if v < 0 ∨ v ≥ l.length then 7 else if (e.to Sec).length = 0 then 1
  else if s < 0 ∨ s > l.getD v.toNat 0 - (e.to Sec).length then 2 else 0 := rfl
theorem vol_cell {d : D} (h : d.Is Vol) {i : Nat} (hi : i < (d.to Vol).length) : d.HasCell i 0 .slc ∧ (d.cell i 0).Is Sec ∧ (d.to Vol)[i] = ⟨(d.cell i 0).to Sec⟩ := by
 obtain ⟨r,h1,⟨x,rfl,hx⟩,h3⟩ := h.row hi
 have e : d.cellAt i 0 = some x := by simp [D.cellAt,h1]
 have e2 : d.cell i 0 = x := by simp [D.cell,e]
 rw [h3,e2]
 refine ⟨?_,hx,rfl⟩
 obtain ⟨a,b,c,rfl⟩ := hx.slc
 exact ⟨a,b,c,e⟩
theorem ev_cell {d : D} (h : d.Is Ev) {i : Nat} (hi : i < (d.to Ev).length) : d.HasCells i 0 [.int .i64,.int .i64] ∧ d.getInt i 0 = ((d.to Ev)[i]).kind ∧ d.getInt i 1 = ((d.to Ev)[i]).write := by
 obtain ⟨r,h1,⟨a,b,rfl⟩,h3⟩ := h.row hi
 rw [h3]
 simp [D.HasCells,D.HasCell,D.getInt,D.cellAt,h1,Codec.dec]
theorem wt_cell {d : D} (h : d.Is Wt) {i : Nat} (hi : i < (d.to Wt).length) : d.HasCells i 0 [.int .i64,.int .i64,.slc] ∧ (d.cell i 2).Is Sec ∧ (d.to Wt)[i] = ⟨d.getInt i 0,d.getInt i 1,(d.cell i 2).to Sec⟩ := by
 obtain ⟨r,h1,⟨a,b,x,rfl,hx⟩,h3⟩ := h.row hi
 have e2 : d.cell i 2 = x := by simp [D.cell,D.cellAt,h1]
 rw [h3,e2]
 obtain ⟨p,q,s,rfl⟩ := hx.slc
 refine ⟨?_,hx,?_⟩
 ·simp [D.HasCells,D.HasCell,D.cellAt,h1]
 ·simp [D.getInt,D.cellAt,h1,Codec.dec]
theorem sec_cell {d : D} (h : d.Is Sec) {i : Nat} (hi : i < (d.to Sec).length) : d.HasCells i 0 [.int .u8,.int .u8,.int .u8,.int .u8,.int .u8,.int .u8,.int .u8,.int .u8] ∧
  (d.to Sec)[i] = ⟨d.getInt i 0,d.getInt i 1,d.getInt i 2,d.getInt i 3,d.getInt i 4,d.getInt i 5,d.getInt i 6,d.getInt i 7⟩ := by
 obtain ⟨r,h1,⟨a,b,c,e,f,g,k,l,rfl⟩,h3⟩ := h.row hi
 rw [h3]
 simp [D.HasCells,D.HasCell,D.getInt,D.cellAt,h1,Codec.dec]
theorem zvol_is (h : Hd) (n : Int) : (D.slc h 8 (List.replicate n.toNat [D.int IntKind.u8 0,D.int IntKind.u8 0,D.int IntKind.u8 0,D.int IntKind.u8 0,D.int IntKind.u8 0,D.int IntKind.u8 0,D.int IntKind.u8 0,D.int IntKind.u8 0])).Is Sec ∧
  (D.slc h 8 (List.replicate n.toNat [D.int IntKind.u8 0,D.int IntKind.u8 0,D.int IntKind.u8 0,D.int IntKind.u8 0,D.int IntKind.u8 0,D.int IntKind.u8 0,D.int IntKind.u8 0,D.int IntKind.u8 0])).to Sec = List.replicate n.toNat zSec :=
 is_of rfl ⟨fun r hr=>by rw [List.eq_of_mem_replicate hr]; exact ⟨0,0,0,0,0,0,0,0,rfl⟩,by simp [List.map_replicate,Codec.dec,zSec]⟩
theorem vol_one {x : D} (hx : x.Is Sec) : SRows Vol [[x]] [⟨x.to Sec⟩] := rows_one ⟨x,rfl,hx⟩ rfl
theorem int_one (n : Int) : SRows Int [[.int .i64 n]] [n] := rows_one (ok_int n) rfl
theorem ev_one (k w : Int) : SRows Ev [[.int .i64 k,.int .i64 w]] [⟨k,w⟩] := rows_one ⟨k,w,rfl⟩ rfl
theorem wt_one (v s : Int) {x : D} (hx : x.Is Sec) : SRows Wt [[.int .i64 v,.int .i64 s,x]] [⟨v,s,x.to Sec⟩] := rows_one ⟨v,s,x,rfl,hx⟩ rfl
theorem map_take_snoc {α β : Type} (f : α → β) {l : List α} {j : Nat} (h : j < l.length) : (l.take (j + 1)).map f = (l.take j).map f ++ [f l[j]] := by
 rw [List.take_succ_eq_append_getElem h,List.map_append]; rfl
section
variable {P : Program} {w : World} {H : HV}
theorem ret_one {α : Type} [Codec α] {X : SV} {l l' : List α} (hx : Stands α X l) (h : l = l') : (Tree.ret X).holds P ⟨w,H⟩ (RetD w H fun ds=>.dat ((ds 0).like l')) := by
 subst h
 obtain ⟨d,h1,h2,h3,h4⟩ := hx
 refine ret_D (fun _=>d) (fun E E'=>?_) (fun H' ho=>?_)
 ·rw [h1]; simp only [SV.den,D.like_self h2 h3]
 ·simp only [SV.Ok,D.like_self h2 h3]; exact ⟨h4 _ ho,h2.slc⟩
theorem ret_oneI {α : Type} [Codec α] {X : SV} {l l' : List α} {k k' : Int} (hx : Stands α X l) (h : l = l') (hk : k = k') : (Tree.ret (.tup [X,.int .i64 k])).holds P ⟨w,H⟩ (RetD w H fun ds=>.tup [.dat ((ds 0).like l'),.int .i64 k']) := by
 subst h; subst hk
 obtain ⟨d,h1,h2,h3,h4⟩ := hx
 refine ret_D (fun _=>d) (fun E E'=>?_) (fun H' ho=>?_)
 ·simp only [SV.den,SV.denL,h1,D.like_self h2 h3]
 ·simp only [SV.Ok,SV.OkL,D.like_self h2 h3] at ho ⊢; exact ⟨⟨h4 _ ho.1,h2.slc⟩,trivial,trivial⟩
end
def spIdxBad (x : D × Unit) : SpecR := .scalar [x.1.Is Int ∧ x.1.len ≤ 1048576] (.int .i64 (idxP (x.1.to Int) badSize))
def spAnyBad (x : D × Unit) : SpecR := .scalar [x.1.Is Int ∧ x.1.len ≤ 1048576] (.bool ((x.1.to Int).any badSize))
def spSizes (x : D) : SpecR := .scalar [x.Is Int ∧ x.len ≤ 1048576] (.int .i64 (sizesErr (x.to Int)))
def spMapN (x : D × Unit) : SpecR := .data [x.1.Is Int ∧ x.1.len ≤ 8 ∧ ∀ n,n ∈ x.1.to Int → 0 ≤ n ∧ n ≤ 4096] fun ds=>.dat ((ds 0).like ((x.1.to Int).map volOf))
def spMapS (x : D × Unit) : SpecR := .data [x.1.Is Vol ∧ x.1.len ≤ 1048576] fun ds=>.dat ((ds 0).like (volSizes (x.1.to Vol)))
def spNewI (x : D) : SpecR := .data [x.Is Int ∧ x.len ≤ 1048576] fun ds=>.tup [.dat ((ds 0).like (imgOf (x.to Int))),.int .i64 (sizesErr (x.to Int))]
def spSzs (x : D) : SpecR := .data [x.Is Vol ∧ x.len ≤ 1048576] fun ds=>.dat ((ds 0).like (volSizes (x.to Vol)))
def spChkI (x : D) : SpecR := .scalar [x.Is Vol ∧ x.len ≤ 1048576] (.int .i64 (sizesErr (volSizes (x.to Vol))))
def ImgOk (d : D) : Prop := d.Is Vol ∧ d.len ≤ 1048576 ∧ ∀ v,v ∈ d.to Vol → v.l.length ≤ 1048576
def WtD.Ok (x : WtD) : Prop := x.d.Is Sec ∧ x.d.len ≤ 1048576
def spFits1 (x : D × WtD) : SpecR := .scalar [ImgOk x.1 ∧ x.2.Ok] (.int .i64 (fitsErr (volSizes (x.1.to Vol)) x.2.wt))
def spFitsI (x : D × WtD) : SpecR := .scalar [ImgOk x.1 ∧ x.2.Ok] (.int .i64 (fitsI (x.1.to Vol) x.2.wt))
def spFitsR (x : D × WtD) : SpecR := .scalar [x.1.Is Int ∧ x.1.len ≤ 1048576 ∧ (∀ n,n ∈ x.1.to Int → 1 ≤ n ∧ n ≤ 4096) ∧ x.2.Ok] (.int .i64 (fitsErr (x.1.to Int) x.2.wt))
theorem atEv_hit {l : List Ev} {e : Ev} {j : Nat} (hj : j < l.length) (h : atEv (l.take j) e = -1) (he : l[j] = e) : atEv l e = j := by
 conv=>lhs; rw [← List.take_append_drop j l,List.drop_eq_getElem_cons hj]
 rw [atEv_append,h,if_pos (by decide),atEv_cons,if_pos he,if_neg (by decide),List.length_take]
 omega
theorem atEv_miss {l : List Ev} {e : Ev} {j : Nat} (hj : j < l.length) (h : atEv (l.take j) e = -1) (he : l[j] ≠ e) : atEv (l.take (j + 1)) e = -1 := by
 rw [atEv_take hj,h,if_pos (by decide),if_neg he]
structure EvD where
 k : Int
 w : Int
def EvD.ev (x : EvD) : Ev := ⟨x.k,x.w⟩
def rdEv : Rd1 EvD where
 read x := match x with
  | .agg [.int .i64 k,.int .i64 w]=>some ⟨k,w⟩
  | _=>none
 canon h := .agg [.int .i64 h.k,.int .i64 h.w]
 right H E x b h hok := by
  split at h
  ·cases h; exact ⟨rfl,trivial,trivial,trivial⟩
  ·cases h
def spAt (x : D × EvD) : SpecR := .scalar [x.1.Is Ev ∧ x.1.len ≤ 1048576] (.int .i64 (atEv (x.1.to Ev) x.2.ev))
def spInts (x : D × D) : SpecR := .scalar [x.1.Is Int ∧ x.2.Is Int ∧ x.1.len ≤ 1048576] (.bool (decide (x.1.to Int = x.2.to Int)))
theorem same_not {α : Type} {a b : List α} (h : a ≠ b) [DecidableEq α] : false = decide (a = b) := by rw [decide_eq_false h]
theorem list_eq_of {α : Type} {a b : List α} {n : Nat} (h1 : a.length = b.length) (h2 : n = a.length) (h : a.take n = b.take n) : a = b := by
 subst h2; rwa [List.take_length,h1,List.take_length] at h
theorem take_succ_eq {α : Type} {a b : List α} {j : Nat} (h1 : j < a.length) (h2 : j < b.length) (h : a.take j = b.take j) (he : a[j] = b[j]) : a.take (j + 1) = b.take (j + 1) := by
 rw [List.take_succ_eq_append_getElem h1,List.take_succ_eq_append_getElem h2,h,he]
end Sx
end
