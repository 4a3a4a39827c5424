/- Keys are numbered anew; an empty slice is a row of one's own. -/
import Derived.Test.YtodhhmjilnfecaaKtoOv
import Derived.ProofKit
import Derived.OpenShut
import Derived.Below
import Derived.Carry
import Derived.Deep.Slices
import Derived.ChangeOld
import Derived.Sort.Row
set_option linter.all false
section
namespace Sx
open Go RowKit

mutual
def SV.ren (ρ : Nat → Nat) : SV → SV
 | .vec k=>.vec (ρ k)
 | .ptr k o=>.ptr (ρ k) o
 | .velt k s i j=>.velt (ρ k) s i j
 | .view k s i j=>.view (ρ k) s i j
 | .mapp k=>.mapp (ρ k)
 | .agg l=>.agg (SV.renL ρ l)
 | .tup l=>.tup (SV.renL ρ l)
 | .fn f a c=>.fn f (SV.renL ρ a) (SV.renL ρ c)
 | .int k n=>.int k n
 | .bool b=>.bool b
 | .lb b=>.lb b
 | .str s=>.str s
 | .nils=>.nils
 | .dat d=>.dat d
 | .elt d i j=>.elt d i j
 | .nilp=>.nilp
 | .nilf=>.nilf
 | .undef=>.undef
 | .junk i=>.junk i
 | .raw v=>.raw v
def SV.renL (ρ : Nat → Nat) : List SV → List SV
 | []=>[]
 | x :: r=>SV.ren ρ x :: SV.renL ρ r
end

def OBlk.ren (ρ : Nat → Nat) : OBlk → OBlk
 | .cells t cs=>.cells t (SV.renL ρ cs)
 | .map es=>.map (es.map fun e=>(e.1.ren ρ,e.2.ren ρ))
 | .arr e d=>.arr e d
 | .pub d=>.pub d

def Ren (ρ : Nat → Nat) (E E' : Env) (k : Nat) : Prop := E'.b (ρ k) = E.b k ∧ E'.v (ρ k) = E.v k

mutual
theorem SV.den_ren {ρ : Nat → Nat} {E E' : Env} (hj : E'.j = E.j) : ∀ x : SV,(∀ k,k ∈ x.keys → Ren ρ E E' k) → (x.ren ρ).den E' = x.den E
 | .vec k,h=>by simp only [SV.ren,SV.den,(h k (by simp [SV.keys])).2]
 | .ptr k _,h=>by simp only [SV.ren,SV.den,(h k (by simp [SV.keys])).1]
 | .velt k _ _ _,h=>by simp only [SV.ren,SV.den,(h k (by simp [SV.keys])).1]
 | .view k _ _ _,h=>by simp only [SV.ren,SV.den,(h k (by simp [SV.keys])).2]
 | .mapp k,h=>by simp only [SV.ren,SV.den,(h k (by simp [SV.keys])).1]
 | .agg l,h=>by simp only [SV.ren,SV.den,SV.denL_ren hj l (by simpa [SV.keys] using h)]
 | .tup l,h=>by simp only [SV.ren,SV.den,SV.denL_ren hj l (by simpa [SV.keys] using h)]
 | .fn _ a c,h=>by
  simp only [SV.keys,List.mem_append] at h
  simp only [SV.ren,SV.den,SV.denL_ren hj a (fun k hk=>h k (.inl hk)),SV.denL_ren hj c (fun k hk=>h k (.inr hk))]
 | .int ..,_=>by simp [SV.ren,SV.den]
 | .bool _,_=>by simp [SV.ren,SV.den]
 | .lb _,_=>by simp [SV.ren,SV.den]
 | .str _,_=>by simp [SV.ren,SV.den]
 | .nils,_=>by simp [SV.ren,SV.den]
 | .dat _,_=>by simp [SV.ren,SV.den]
 | .elt ..,_=>by simp [SV.ren,SV.den]
 | .nilp,_=>by simp [SV.ren,SV.den]
 | .nilf,_=>by simp [SV.ren,SV.den]
 | .undef,_=>by simp [SV.ren,SV.den]
 | .junk _,_=>by simp [SV.ren,SV.den,hj]
 | .raw _,_=>by simp [SV.ren,SV.den]
theorem SV.denL_ren {ρ : Nat → Nat} {E E' : Env} (hj : E'.j = E.j) : ∀ l : List SV,(∀ k,k ∈ SV.keysL l → Ren ρ E E' k) → SV.denL E' (SV.renL ρ l) = SV.denL E l
 | [],_=>by simp [SV.renL,SV.denL]
 | x :: r,h=>by
  simp only [SV.keysL,List.mem_append] at h
  simp only [SV.renL,SV.denL,SV.den_ren hj x (fun k hk=>h k (.inl hk)),SV.denL_ren hj r (fun k hk=>h k (.inr hk))]
end

mutual
theorem SV.ok_ren {ρ : Nat → Nat} {H : HV} : ∀ x : SV,x.Ok H → (x.ren ρ).Ok H
 | .dat _,h=>by simpa only [SV.ren,SV.Ok] using h
 | .elt ..,h=>by simpa only [SV.ren,SV.Ok] using h
 | .agg l,h=>by simp only [SV.ren,SV.Ok] at h ⊢; exact SV.okL_ren l h
 | .tup l,h=>by simp only [SV.ren,SV.Ok] at h ⊢; exact SV.okL_ren l h
 | .fn _ a c,h=>by simp only [SV.ren,SV.Ok] at h ⊢; exact ⟨SV.okL_ren a h.1,SV.okL_ren c h.2⟩
 | .int ..,_=>by simp [SV.ren,SV.Ok]
 | .bool _,_=>by simp [SV.ren,SV.Ok]
 | .lb _,_=>by simp [SV.ren,SV.Ok]
 | .str _,_=>by simp [SV.ren,SV.Ok]
 | .nils,_=>by simp [SV.ren,SV.Ok]
 | .vec _,_=>by simp [SV.ren,SV.Ok]
 | .ptr ..,_=>by simp [SV.ren,SV.Ok]
 | .velt ..,_=>by simp [SV.ren,SV.Ok]
 | .view ..,_=>by simp [SV.ren,SV.Ok]
 | .nilp,_=>by simp [SV.ren,SV.Ok]
 | .nilf,_=>by simp [SV.ren,SV.Ok]
 | .mapp _,_=>by simp [SV.ren,SV.Ok]
 | .undef,_=>by simp [SV.ren,SV.Ok]
 | .junk _,_=>by simp [SV.ren,SV.Ok]
 | .raw _,_=>by simp [SV.ren,SV.Ok]
theorem SV.okL_ren {ρ : Nat → Nat} {H : HV} : ∀ l : List SV,SV.OkL H l → SV.OkL H (SV.renL ρ l)
 | [],_=>by simp [SV.renL,SV.OkL]
 | x :: r,h=>by simp only [SV.renL,SV.OkL] at h ⊢; exact ⟨SV.ok_ren x h.1,SV.okL_ren r h.2⟩
end

theorem OOk.ren {C : Ctx} {ρ : Nat → Nat} {E E' : Env} {H : HV} {w : World} {k : Nat} {o : OBlk} (hj : E'.j = E.j) (h : OOk C E H w k o) (hk : Ren ρ E E' k) (ho : ∀ j,j ∈ o.keys → Ren ρ E E' j)
  (hinj : ∀ es,o = .map es → KeysOk es → KeysOk (es.map fun e=>(e.1.ren ρ,e.2.ren ρ))) : OOk C E' H w (ρ k) (o.ren ρ) := by
 obtain ⟨k1,k2⟩ := hk
 cases o with
 | cells t cs =>
  obtain ⟨a,b,c,d⟩ := h
  exact ⟨by rw [k1]; exact a,by rw [k1,SV.denL_ren hj cs ho]; exact b,by rw [k1]; exact c,SV.okL_ren cs d⟩
 | pub d=>exact ⟨by rw [k2]; exact h.1,h.2⟩
 | map es =>
  obtain ⟨a,b,⟨en,cl,hh,hm⟩,c,d⟩ := h
  refine ⟨by rw [k1]; exact a,by rw [k1]; exact b,⟨en,cl,by rw [k1]; exact hh,hm.trans (List.Perm.of_eq ?_)⟩,?_,hinj es rfl d⟩
  ·rw [List.map_map]
   apply List.map_congr_left
   intro e he
   simp only [OBlk.keys,List.mem_flatMap,List.mem_append] at ho
   simp only [Function.comp,SV.den_ren hj e.1 (fun j hj=>ho j ⟨e,he,.inl hj⟩),SV.den_ren hj e.2 (fun j hj=>ho j ⟨e,he,.inr hj⟩)]
  ·intro e he
   obtain ⟨x,hx,rfl⟩ := List.mem_map.1 he
   exact ⟨SV.ok_ren _ (c x hx).1,SV.ok_ren _ (c x hx).2⟩
 | arr e d =>
  obtain ⟨hd,sz,rows,rfl,hv,how,hl,hk2,hx⟩ := h
  exact ⟨hd,sz,rows,rfl,by rw [k2]; exact hv,how,hl,hk2,fun a c hc=>by
   obtain ⟨p,q⟩ := hx a c hc
   exact ⟨by rw [k1]; exact p,by rw [k1]; exact q⟩⟩

theorem keysOk_ren {ρ : Nat → Nat} {es : List (SV × SV)} (h : KeysOk es) : KeysOk (es.map fun e=>(e.1.ren ρ,e.2.ren ρ)) := by
 refine ⟨fun e he=>?_,?_⟩
 ·obtain ⟨x,hx,rfl⟩ := List.mem_map.1 he
  obtain ⟨k,n,hk⟩ := h.1 x hx
  exact ⟨k,n,by simp [hk,SV.ren]⟩
 ·rw [List.pairwise_map]
  refine h.2.imp_of_mem ?_
  intro a b ha hb hne
  obtain ⟨k,n,hk⟩ := h.1 a ha
  obtain ⟨k',n',hk'⟩ := h.1 b hb
  rw [hk,hk'] at hne
  simpa [hk,hk',SV.ren] using hne
def meet : List Nat → List Nat → List Nat
 | acc,[]=>acc
 | acc,k :: r=>match acc.contains k with
  | true=>meet acc r
  | false=>meet (acc ++ [k]) r

def idxOf (k : Nat) : Nat → List Nat → Nat
 | n,[]=>n
 | n,x :: r=>match Nat.beq x k with
  | true=>n
  | false=>idxOf k (n + 1) r

theorem meet_mem {k : Nat} : ∀ {l acc : List Nat},k ∈ acc ∨ k ∈ l → k ∈ meet acc l
 | [],acc,h=>by simpa [meet] using h
 | x :: r,acc,h=>by
  simp only [meet]
  split
  ·rename_i hx
   refine meet_mem ?_
   rcases h with h | h
   ·exact .inl h
   ·rcases List.mem_cons.1 h with rfl | h
    ·exact .inl (by simpa using hx)
    ·exact .inr h
  ·refine meet_mem ?_
   rcases h with h | h
   ·exact .inl (List.mem_append_left _ h)
   ·rcases List.mem_cons.1 h with rfl | h
    ·exact .inl (by simp)
    ·exact .inr h

theorem idxOf_spec {k : Nat} : ∀ {l : List Nat} {n : Nat},k ∈ l → ∃ i,idxOf k n l = n + i ∧ l[i]? = some k
 | [],_,h=>by cases h
 | x :: r,n,h=>by
  simp only [idxOf]
  cases hx : Nat.beq x k with
  | true=>exact ⟨0,by simp,by simp [Nat.eq_of_beq_eq_true hx]⟩
  | false =>
   have hne : x ≠ k := fun e=>by subst e; rw [Nat.beq_refl] at hx; cases hx
   rcases List.mem_cons.1 h with h | h
   ·exact absurd h.symm hne
   ·obtain ⟨i,h1,h2⟩ := idxOf_spec (n := n + 1) h
    exact ⟨i + 1,by simp only; omega,by simpa using h2⟩
def walkK (m : Mem) : Nat → Nat → List Nat → List Nat
 | 0,_,acc=>acc
 | n + 1,i,acc=>match acc[i]? with
  | none=>acc
  | some k=>walkK m n (i + 1) (meet acc (match m.get k with | some o=>o.keys | none=>[]))

theorem walkK_mem {m : Mem} {k : Nat} : ∀ {n i : Nat} {acc : List Nat},k ∈ acc → k ∈ walkK m n i acc
 | 0,_,_,h=>h
 | n + 1,i,acc,h=>by
  simp only [walkK]
  split
  ·exact h
  ·exact walkK_mem (meet_mem (.inl h))

def Conf.allKeys (c : Conf) : List Nat :=
 meet (walkK c.mem (c.mem.length + 4) 0 (meet [] (SV.keysL c.top.tmps ++ (c.rest.flatMap fun f=>SV.keysL f.tmps)))) (Mem.named c.mem)

def renWith (ρ : Nat → Nat) (c : Conf) : Conf :=
 ⟨{ c.top with tmps := SV.renL ρ c.top.tmps },c.rest.map fun f=>{ f with tmps := SV.renL ρ f.tmps },c.mem.map fun e=>(ρ e.1,e.2.ren ρ)⟩
def insM (x : Nat × OBlk) : Mem → Mem
 | []=>[x]
 | y :: r=>match Nat.ble x.1 y.1 with
  | true=>x :: y :: r
  | false=>y :: insM x r

def sortM : Mem → Mem
 | []=>[]
 | x :: r=>insM x (sortM r)

theorem insM_perm (x : Nat × OBlk) : ∀ m : Mem,(insM x m).Perm (x :: m)
 | []=>List.Perm.refl _
 | y :: r=>by
  simp only [insM]
  split
  ·exact List.Perm.refl _
  ·exact ((insM_perm x r).cons y).trans (List.Perm.swap _ _ _)

theorem sortM_perm : ∀ m : Mem,(sortM m).Perm m
 | []=>List.Perm.refl _
 | x :: r=>(insM_perm x _).trans ((sortM_perm r).cons x)

theorem Good.perm {C : Ctx} {m m' : Mem} {E : Env} {H : HV} {w : World} (g : Good C m E H w) (h : m'.Perm m) : Good C m' E H w :=
 ⟨g.below,g.ext,g.fresh,g.cell,fun k o hk=>g.own k o (h.subset hk),(h.pairwise_iff (fun {a b} (h : a.1 ≠ b.1)=>h.symm)).2 g.keys,fun x y hx hy=>g.apart x y (h.subset hx) (h.subset hy),g.fix⟩

def sortC (c : Conf) : Conf := { c with mem := sortM c.mem }

theorem sortC_sound {P : Program} {C : Ctx} {R : Value → World → Prop} {c : Conf} (h : Runs P C (sortC c) R) : Runs P C c R :=
 fun E H w g ok=>h E H w (g.perm (sortM_perm _)) ok
def newKy (ks : List Nat) (k : Nat) : Nat :=
 match Nat.ble PIN k with
 | true=>k
 | false=>idxOf k 0 ks
def renC (c : Conf) : Conf :=
 match Nat.blt c.allKeys.length PIN with
 | true=>renWith (newKy c.allKeys) c
 | false=>c
noncomputable def headC {β : Type _} (P : Program) (c : Conf) (k : Conf → β) : β := nz (renC (fgt P c)) fun c=>nz (sortC c) k

theorem renC_sound {P : Program} {C : Ctx} {R : Value → World → Prop} {c : Conf} (h : Runs P C (renC c) R) : Runs P C c R := by
 unfold renC at h
 cases hsz : Nat.blt c.allKeys.length PIN with
 | false=>rw [hsz] at h; exact h
 | true =>
 rw [hsz] at h
 have hsz : c.allKeys.length < PIN := by simpa [Nat.blt_eq] using hsz
 intro E H w g ok
 have spec : ∀ k,k ∈ c.allKeys → ∃ i,idxOf k 0 c.allKeys = i ∧ c.allKeys[i]? = some k := fun k hk=>by
  obtain ⟨i,h1,h2⟩ := idxOf_spec (n := 0) hk
  exact ⟨i,by omega,h2⟩
 have all : ∀ k,k ∈ SV.keysL c.top.tmps ∨ (∃ f,f ∈ c.rest ∧ k ∈ SV.keysL f.tmps) ∨ k ∈ Mem.named c.mem → k ∈ c.allKeys := fun k hk=>by
  rcases hk with hk | ⟨f,hf,hk⟩ | hk
  ·exact meet_mem (.inl (walkK_mem (meet_mem (.inr (List.mem_append_left _ hk)))))
  ·exact meet_mem (.inl (walkK_mem (meet_mem (.inr (List.mem_append_right _ (List.mem_flatMap.2 ⟨f,hf,hk⟩))))))
  ·exact meet_mem (.inr hk)
 let E' : Env := ⟨fun i=>if PIN ≤ i then E.b i else E.b (c.allKeys.getD i 0),fun i=>if PIN ≤ i then E.v i else E.v (c.allKeys.getD i 0),E.j⟩
 let ρ : Nat → Nat := newKy c.allKeys
 have cas : ∀ k,k ∈ c.allKeys → (PIN ≤ k ∧ ρ k = k) ∨ (k < PIN ∧ ρ k < PIN ∧ ρ k = idxOf k 0 c.allKeys ∧ c.allKeys[ρ k]? = some k) := fun k hk=>by
  rcases Nat.lt_or_ge k PIN with hl | hl
  ·obtain ⟨i,h1,h2⟩ := spec k hk
   have e : ρ k = i := by
    have : Nat.ble PIN k = false := by
     cases hb : Nat.ble PIN k with
     | false=>rfl
     | true=>have := Nat.le_of_ble_eq_true hb; omega
    simp only [ρ,newKy,this,h1]
   have hi := (List.getElem?_eq_some_iff.1 h2).1
   exact .inr ⟨hl,by omega,by rw [e,h1],by rw [e]; exact h2⟩
  ·exact .inl ⟨hl,by simp only [ρ,newKy,Nat.ble_eq_true_of_le hl]⟩
 have ren : ∀ k,k ∈ c.allKeys → Ren ρ E E' k := fun k hk=>by
  rcases cas k hk with ⟨h1,h2⟩ | ⟨h1,h2,_,h3⟩
  ·simp only [Ren,E',h2,if_pos h1,and_self]
  ·simp only [Ren,E',if_neg (Nat.not_le.2 h2),List.getD_eq_getElem?_getD,h3,Option.getD_some,and_self]
 have inj : ∀ k j,k ∈ c.allKeys → j ∈ c.allKeys → ρ k = ρ j → k = j := fun k j hk hj e=>by
  rcases cas k hk with ⟨h1,h2⟩ | ⟨h1,h2,_,h3⟩ <;> rcases cas j hj with ⟨g1,g2⟩ | ⟨g1,g2,_,g3⟩
  ·rw [h2,g2] at e; exact e
  ·omega
  ·omega
  ·rw [e,g3] at h3; exact (Option.some.inj h3).symm
 have named : ∀ k o,(k,o) ∈ c.mem → k ∈ c.allKeys ∧ ∀ j,j ∈ o.keys → j ∈ c.allKeys := fun k o hm=>by
  refine ⟨all k (.inr (.inr ?_)),fun j hj=>all j (.inr (.inr ?_))⟩
  ·simp only [Mem.named,List.mem_flatMap]; exact ⟨_,hm,List.mem_cons_self⟩
  ·simp only [Mem.named,List.mem_flatMap]; exact ⟨_,hm,List.mem_cons_of_mem _ hj⟩
 have gd : Good C (c.mem.map fun e=>(ρ e.1,e.2.ren ρ)) E' H w := by
  refine ⟨g.below,g.ext,g.fresh,g.cell,fun k o hko=>?_,?_,fun x y hx hy hne hlx hly=>?_,g.fix.keep (fun k hk=>by simp only [E',if_pos hk]) fun _ _ h _=>h⟩
  ·obtain ⟨e,he,h1⟩ := List.mem_map.1 hko
   simp only [Prod.mk.injEq] at h1
   obtain ⟨rfl,rfl⟩ := h1
   obtain ⟨n1,n2⟩ := named e.1 e.2 he
   exact (g.own e.1 e.2 he).ren (E' := E') (show E'.j = E.j from rfl) (ren _ n1) (fun j hj=>ren j (n2 j hj)) (fun es _ hk=>keysOk_ren hk)
  ·rw [List.pairwise_map]
   refine g.keys.imp_of_mem ?_
   intro a b ha hb hne e
   exact hne (inj _ _ (named a.1 a.2 ha).1 (named b.1 b.2 hb).1 e)
  ·obtain ⟨a,ha,h1⟩ := List.mem_map.1 hx
   obtain ⟨b,hb,h2⟩ := List.mem_map.1 hy
   subst h1; subst h2
   simp only at hne hlx hly ⊢
   rw [(ren a.1 (named a.1 a.2 ha).1).1,(ren b.1 (named b.1 b.2 hb).1).1]
   have lies : ∀ o : OBlk,(o.ren ρ).Lies → o.Lies := fun o h=>by cases o <;> exact h
   exact g.apart a b ha hb (fun e=>hne (by rw [e])) (lies _ hlx) (lies _ hly)
 have hr := h E' H w gd ⟨SV.okL_ren _ ok.1,fun f hf=>by
  obtain ⟨f',hf',rfl⟩ := List.mem_map.1 hf
  exact SV.okL_ren _ (ok.2 f' hf')⟩
 have e1 : (renWith ρ c).top.den E' = c.top.den E := by
  simp only [renWith,SFrm.den]
  rw [SV.denL_ren (E := E) (E' := E') rfl _ fun k hk=>ren k (all k (.inl hk))]
 have e2 : (renWith ρ c).rest.map (SFrm.den E') = c.rest.map (SFrm.den E) := by
  simp only [renWith,List.map_map]
  apply List.map_congr_left
  intro f hf
  simp only [Function.comp,SFrm.den]
  rw [SV.denL_ren (E := E) (E' := E') rfl _ fun k hk=>ren k (all k (.inr (.inl ⟨f,hf,hk⟩)))]
 rw [e1,e2] at hr
 exact hr

theorem headC_sound {P : Program} {C : Ctx} {R : Value → World → Prop} {c : Conf} (h : (headC P c Tree.leaf).holds P C R) : Runs P C c R := by
 simp only [headC,nz_eq] at h
 exact fgt_sound (renC_sound (sortC_sound h))

/-! An empty slice is a row of one's own. -/
def vecIn (K : Nat) (e : TypeId) (sz : Nat) (blk : Option Nat) (off : Nat) (c : Conf) : Option Conf :=
 match c.fresh K with
 | false=>none
 | true=>match blk with
  | none=>match c.top.tmps[off]? with
   | some .nils=>some ⟨{ c.top with tmps := c.top.tmps.set off (.vec K) },c.rest,(K,.arr e (.slc none sz [])) :: c.mem⟩
   | _=>none
  | some b=>match c.mem.get b with
   | some (.cells t cs)=>match cs[off]? with
    | some .nils=>some ⟨c.top,c.rest,(K,.arr e (.slc none sz [])) :: c.mem.set b (.cells t (cs.set off (.vec K)))⟩
    | _=>none
   | _=>none

theorem denL_setVec {E : Env} {K : Nat} {l : List SV} {i : Nat} (h : l[i]? = some .nils) (hv : E.v K = (none,0)) : SV.denL E (l.set i (.vec K)) = SV.denL E l := by
 rw [denL_set,SV.denL_eq]
 apply List.ext_getElem?
 intro j
 by_cases hj : j = i
 ·subst hj
  rw [List.getElem?_set_self (by have := (List.getElem?_eq_some_iff.1 h).1; simpa using this)]
  simp [h,SV.den,hv,hval]
 ·rw [List.getElem?_set_ne (Ne.symm hj)]

theorem vecIn_sound {P : Program} {C : Ctx} {R : Value → World → Prop} {K : Nat} {e : TypeId} {sz : Nat} {blk : Option Nat} {off : Nat} {c c' : Conf} (hc : vecIn K e sz blk off c = some c') (h : Runs P C c' R) : Runs P C c R := by
 intro E H w g ok
 unfold vecIn at hc
 split at hc
 ·cases hc
 ·rename_i hf
  obtain ⟨f1,f2,f3⟩ := fresh_spec hf
  have ha := E.agree_setV K 0 (none,0)
  have hv : (E.setV K 0 (none,0)).v K = (none,0) := by simp [Env.setV]
  have cons : ∀ {m : Mem},Good C m E H w → Mem.has K m = false → Good C ((K,.arr e (.slc none sz [])) :: m) (E.setV K 0 (none,0)) H w := fun {m} gm hm =>
   Good.cons gm hm ha (Below.refl _ _) ⟨_,_,_,rfl,hv,⟨by simp [flat],.inl ⟨rfl,rfl⟩⟩,by simp,by simp,by simp⟩ (fun hl=>by simp [OBlk.Lies,D.hd] at hl)
  have hrest : c.rest.map (SFrm.den (E.setV K 0 (none,0))) = c.rest.map (SFrm.den E) := rest_agree ha f3
  split at hc
  ·split at hc
   ·rename_i hn
    cases hc
    have hr := h (E.setV K 0 (none,0)) H w (cons g f1) ⟨okL_putS (dst := some off) ok.1 (by simp [SV.Ok]),ok.2⟩
    simp only at hr
    rw [hrest] at hr
    have e1 : SFrm.den (E.setV K 0 (none,0)) { c.top with tmps := c.top.tmps.set off (.vec K) } = c.top.den E := by
     simp only [SFrm.den]
     rw [denL_setVec hn hv,SV.denL_agree ha _ f2]
    rw [e1] at hr
    exact hr
   ·cases hc
  ·rename_i b
   split at hc
   ·rename_i t cs hg
    split at hc
    ·rename_i hn
     cases hc
     -- the block holds what it held
     have hmem := Mem.get_mem hg
     have g1 := cons g f1
     have hkb : b ≠ K := fun e=>(Mem.has_key f1 _ hmem).1 (by rw [e])
     have hcs : SV.hasL K cs = false := (Mem.has_key f1 _ hmem).2
     have g2 : Good C ((K,.arr e (.slc none sz [])) :: c.mem.set b (.cells t (cs.set off (.vec K)))) (E.setV K 0 (none,0)) H w := by
      have hspec := Mem.set_spec (o' := .cells t (cs.set off (.vec K))) g.keys hg
      refine ⟨g1.below,g1.ext,g1.fresh,g1.cell,fun k o hko=>?_,?_,fun x y hx hy hne hlx hly=>?_,g1.fix⟩
      ·rcases List.mem_cons.1 hko with hk | hk
       ·exact g1.own k o (by rw [hk]; exact List.mem_cons_self)
       ·rcases hspec k o hk with ⟨rfl,rfl⟩ | ⟨hne,hm⟩
        ·obtain ⟨a1,a2,a3,a4⟩ := g1.own k _ (List.mem_cons_of_mem _ hmem)
         exact ⟨a1,by rw [denL_setVec hn hv]; exact a2,a3,okL_putS (dst := some off) a4 (by simp [SV.Ok])⟩
        ·exact g1.own k o (List.mem_cons_of_mem _ hm)
      ·rw [pairwise_keys]
       have := g1.keys
       rw [pairwise_keys] at this
       simpa [Mem.set_keys] using this
      ·have old : ∀ z : Nat × OBlk,z ∈ (K,OBlk.arr e (.slc none sz [])) :: c.mem.set b (.cells t (cs.set off (.vec K))) → z.2.Lies → ∃ o,(z.1,o) ∈ (K,OBlk.arr e (.slc none sz [])) :: c.mem ∧ o.Lies := by
        intro z hz hl
        rcases List.mem_cons.1 hz with rfl | hz
        ·exact ⟨_,List.mem_cons_self,hl⟩
        ·rcases hspec z.1 z.2 hz with ⟨h1,h2⟩ | ⟨_,hm⟩
         ·exact ⟨.cells t cs,List.mem_cons_of_mem _ (by rw [h1]; exact hmem),trivial⟩
         ·exact ⟨_,List.mem_cons_of_mem _ hm,hl⟩
       obtain ⟨ox,hx1,hx2⟩ := old x hx hlx
       obtain ⟨oy,hy1,hy2⟩ := old y hy hly
       exact g1.apart (x.1,ox) (y.1,oy) hx1 hy1 hne hx2 hy2
     have hr := h (E.setV K 0 (none,0)) H w g2 ok
     simp only at hr
     rw [hrest] at hr
     have e1 : SFrm.den (E.setV K 0 (none,0)) c.top = c.top.den E := by
      simp only [SFrm.den]
      rw [SV.denL_agree ha _ f2]
     rw [e1] at hr
     exact hr
    ·cases hc
   ·cases hc

end Sx
end
section
namespace Sx
open Go RowKit
def brA (f : SV → Tree) (d : SV) : List (Bool × SV) → Tree
 | []=>f d
 | (b,v) :: r=>.br b (f v) (brA f d r)
def keyFor (c : Conf) (dst : Option Tmp) : Nat → Nat → Option Nat
 | 0,_=>none
 | n + 1,d=>match c.fresh (dstKey d dst) with
  | true=>some (dstKey d dst)
  | false=>keyFor c dst n (d + 10)

theorem keyFor_spec {c : Conf} {dst : Option Tmp} : ∀ {n d key : Nat},keyFor c dst n d = some key → c.fresh key = true
 | 0,_,_,h=>by cases h
 | n + 1,d,key,h=>by
  simp only [keyFor] at h
  split at h
  ·rename_i hc; cases h; exact hc
  ·exact keyFor_spec h

section
variable {β : Type _}
noncomputable def nzR (l : List SFrm) (k : List SFrm → β) : β :=
 List.rec (motive := fun _=>(List SFrm → β) → β) (fun k=>k []) (fun x _ ih k=>nzL SV.nz2 x.tmps fun t=>ih fun r=>k (⟨x.fn,x.ri,x.await,x.todo,t⟩ :: r)) l k
theorem nzR_eq : ∀ (l : List SFrm) (k : List SFrm → β),nzR l k = k l
 | [],_=>rfl
 | x :: r,k=>by
  show nzL SV.nz2 x.tmps (fun t=>nzR r fun r'=>k (⟨x.fn,x.ri,x.await,x.todo,t⟩ :: r')) = _
  rw [nzL_eq SV.nz2_eq,nzR_eq r]
end
noncomputable def leafR (c : Conf) : Tree := nzR c.rest fun r=>.leaf ⟨c.top,r,c.mem⟩
theorem leafR_eq : leafR = Tree.leaf := by funext c; simp only [leafR,nzR_eq]
theorem headR_sound {P : Program} {C : Ctx} {R : Value → World → Prop} {c : Conf} (h : (headC P c leafR).holds P C R) : Runs P C c R := headC_sound (by rwa [leafR_eq] at h)
def unroll (c : Conf) : Conf :=
 match c.top.todo with
 | .inLoop b :: k=>{ c with top := { c.top with todo := .code b :: .inLoop b :: k } }
 | _=>c
noncomputable def stepC (P : Program) (cs : Ctrs) (U : FuncId → Bool) (ih : Conf → Tree) (c : Conf) : Tree :=
 let s := c.top
 match s.ri with
 | some (_,[])=>nz { c with top := { s with ri := none } } ih
 | some (ops,i :: l) =>
  match ops[i]? with
  | none=>ih { c with top := { s with ri := some (ops,l) } }
  | some o =>
   match guardR ops o s.tmps with
   | .bad=>.stuck
   | .no=>ih { c with top := { s with ri := some (ops,l),tmps := putS s.tmps o.dst .undef } }
   | .fork t b=>.br b (ih { c with top := { s with tmps := s.tmps.set t (.lb true) } }) (ih { c with top := { s with tmps := s.tmps.set t (.lb false) } })
   | .yes =>
    let quick := match opr P (evS s.tmps) c.mem 0 o.op with
     | .val ps v _=>needs ps (ih { c with top := { s with ri := some (ops,l),tmps := putS s.tmps o.dst v } })
     | _=>.stuck
    let plain := depthK c.rest 1 fun d=>match keyFor c o.dst 40 d with
     | some key=>match opr P (evS s.tmps) c.mem key o.op with
      | .val ps v m'=>needs ps (ih { c with top := { s with ri := some (ops,l),tmps := putS s.tmps o.dst v },mem := m' })
      | .all ps g=>needs ps (.all fun hs=>ih { c with top := { s with ri := some (ops,l),tmps := putS s.tmps o.dst (g (hs 0)).1 },mem := (g (hs 0)).2 })
      | .bad=>.stuck
     | none=>.stuck
    match o.op with
    | .pick (.tmp t) _ _ =>
     match s.tmps[t]? with
     | some (.bool b)=>.br b (ih { c with top := { s with tmps := s.tmps.set t (.lb true) } }) (ih { c with top := { s with tmps := s.tmps.set t (.lb false) } })
     | _=>quick
    | .store t a x =>
     match storeR P c.mem t (evS s.tmps a) (evS s.tmps x) with
     | some (ps,m')=>needs ps (ih { c with top := { s with ri := some (ops,l),tmps := putS s.tmps o.dst .undef },mem := m' })
     | none=>.stuck
    | .call cl =>
     match calleeOf (evS s.tmps) cl.callee with
     | some (f,first,captured) =>
      let args := first ++ cl.args.toList.map (evS s.tmps) ++ captured
      match cs.find f with
      | some ctr =>
       depthK c.rest 1 fun d=>match keyFor c o.dst 40 d with
       | some key =>
        match ctr args key c.mem with
        | .val ps v m'=>needs ps (ih { c with top := { s with ri := some (ops,l),tmps := putS s.tmps o.dst v },mem := m' })
        | .all ps g=>needs ps (.all fun hs=>ih { c with top := { s with ri := some (ops,l),tmps := putS s.tmps o.dst (g (hs 0)).1 },mem := (g (hs 0)).2 })
        | .bad=>.stuck
       | none=>.stuck
      | none =>
       match P.funcs[f]? with
       | some fn=>match fn.body with
        | some body=>match fn.name == "runtime.NumGoroutine" with
         | true=>.stuck
         | false=>nz { top := ⟨f,none,none,[.code body],args ++ List.replicate (fn.ntmps - args.length) .undef⟩,rest := { s with ri := some (ops,l),await := o.dst } :: c.rest,mem := c.mem } ih
        | none=>.stuck
       | none=>.stuck
     | none=>match quickOp o.op with
      | true=>quick
      | false=>plain
    | .lookup t x i ok =>
     match lookR P c.mem t (evS s.tmps x) (evS s.tmps i) ok with
     | some (al,d)=>brA (fun v=>ih { c with top := { s with ri := some (ops,l),tmps := putS s.tmps o.dst v } }) d al
     | none=>.stuck
    | _=>match quickOp o.op with
     | true=>quick
     | false=>plain
 | none =>
  match s.todo with
  | []=>retC P (fun c=>nz c ih) c
  | .code .ret :: _=>retC P (fun c=>nz c ih) c
  | .code .skip :: k=>ih { c with top := { s with todo := k } }
  | .code (.label _) :: k=>ih { c with top := { s with todo := k } }
  | .inBlock _ :: k=>ih { c with top := { s with todo := k } }
  | .inScope _ :: k=>ih { c with top := { s with todo := k } }
  | .code (.scope b) :: k=>ih { c with top := { s with todo := .code b :: .inScope b :: k } }
  | .code (.seq a b) :: k=>ih { c with top := { s with todo := .code a :: .code b :: k } }
  | .code (.cond x a b) :: k =>
   match evS s.tmps x with
   | .lb true=>ih { c with top := { s with todo := .code a :: k } }
   | .lb false=>ih { c with top := { s with todo := .code b :: k } }
   | .bool t=>.br t (ih { c with top := { s with todo := .code a :: k } }) (ih { c with top := { s with todo := .code b :: k } })
   | _=>.stuck
  | .code (.block id b) :: k=>ih { c with top := { s with todo := .code b :: .inBlock id :: k } }
  | .code (.loop b) :: k=>match U s.fn with
   | true=>ih { c with top := { s with todo := .code b :: .inLoop b :: k } }
   | false=>headC P { c with top := { s with todo := .inLoop b :: k } } leafR
  | .inLoop b :: k=>match U s.fn with
   | true=>ih { c with top := { s with todo := .code b :: .inLoop b :: k } }
   | false=>headC P { c with top := { s with todo := .inLoop b :: k } } leafR
  | .code (.exit id) :: k=>match exitTo id k with
   | some k'=>ih { c with top := { s with todo := k' } }
   | none=>.stuck
  | .code (.goto n) :: k=>match gotoIn n k with
   | some k'=>ih { c with top := { s with todo := k' } }
   | none=>.stuck
  | .code (.region _ ops false) :: k=>match calmOps ops with
   | true=>ih { c with top := { s with ri := some (ops,List.range ops.size),todo := k } }
   | false=>.stuck
  | .code (.region _ ops true) :: k=>drawC P cs ih c ops k
  | _=>.stuck
noncomputable def execU (P : Program) (cs : Ctrs) (U : FuncId → Bool) (n : Nat) : Conf → Tree :=
 Nat.rec (motive := fun _=>Conf → Tree) (fun _=>.stuck) (fun _ ih c=>stepC P cs U ih c) n

noncomputable def exec (P : Program) (cs : Ctrs) (n : Nat) : Conf → Tree := execU P cs (fun _=>false) n

end Sx
end
section
namespace Sx
open Go RowKit

section
variable {P : Program} {C : Ctx} {R : Value → World → Prop} {cs : Ctrs}

theorem after_of_holds {ih : Conf → Tree} (hih : ∀ c,(ih c).holds P C R → Runs P C c R) {r : OpR} {c : Conf} {ops : Array Oper} {l : List Nat} {dst : Option Tmp}
  (h : (match r with
   | .val ps v m'=>needs ps (ih { c with top := { c.top with ri := some (ops,l),tmps := putS c.top.tmps dst v },mem := m' })
   | .all ps g=>needs ps (.all fun hs=>ih { c with top := { c.top with ri := some (ops,l),tmps := putS c.top.tmps dst (g (hs 0)).1 },mem := (g (hs 0)).2 })
   | .bad=>.stuck : Tree).holds P C R) : r.After P C R c ops l dst := by
 cases r with
 | val ps v m' =>
  obtain ⟨h1,h2⟩ := needs_holds h
  exact ⟨h1,hih _ h2⟩
 | all ps g =>
  obtain ⟨h1,h2⟩ := needs_holds h
  exact ⟨h1,fun hs=>hih _ (h2 fun _=>hs)⟩
 | bad=>exact h.elim

theorem set_same_den (E : Env) {tmps : List SV} {t : Nat} {b : Bool} (ht : tmps[t]? = some (.bool b)) : SV.denL E (tmps.set t (.lb b)) = SV.denL E tmps := by
 rw [denL_set]
 simp only [SV.den]
 rw [SV.denL_eq]
 apply List.ext_getElem?
 intro i
 by_cases hi : i = t
 ·subst hi
  have hlt : i < tmps.length := (List.getElem?_eq_some_iff.1 ht).1
  rw [List.getElem?_set_self (by simpa using hlt)]
  simp [ht,SV.den]
 ·rw [List.getElem?_set_ne (Ne.symm hi)]

theorem ok_set_lb {H : HV} {tmps : List SV} (h : SV.OkL H tmps) (t : Nat) (b : Bool) : SV.OkL H (tmps.set t (.lb b)) :=
 okL_putS (dst := some t) h (by simp [SV.Ok])
theorem runs_fork {c : Conf} {t : Nat} {b : Bool} (ht : c.top.tmps[t]? = some (.bool b))
  (h1 : b = true → Runs P C { c with top := { c.top with tmps := c.top.tmps.set t (.lb true) } } R)
  (h2 : b = false → Runs P C { c with top := { c.top with tmps := c.top.tmps.set t (.lb false) } } R) : Runs P C c R := by
 cases b with
 | true=>exact runs_top (h1 rfl) rfl rfl (fun H ok=>ok_set_lb ok.1 t true) (fun ds ro E w T h=>by simp only [SFrm.dn,set_same_den E ht] at h ⊢; exact h)
 | false=>exact runs_top (h2 rfl) rfl rfl (fun H ok=>ok_set_lb ok.1 t false) (fun ds ro E w T h=>by simp only [SFrm.dn,set_same_den E ht] at h ⊢; exact h)

theorem brA_holds {f : SV → Tree} {d : SV} : ∀ {l : List (Bool × SV)},(brA f d l).holds P C R → (f (pickA d l)).holds P C R
 | [],h=>h
 | (true,v) :: r,h=>h.1 rfl
 | (false,v) :: r,h=>brA_holds (l := r) (h.2 rfl)

theorem step_sound (hcs : cs.Ok P) {U : FuncId → Bool} {ih : Conf → Tree} (hih : ∀ c,(ih c).holds P C R → Runs P C c R) (c : Conf) (h : (stepC P cs U ih c).holds P C R) : Runs P C c R := by
 obtain ⟨⟨fn,ri,aw,todo,tmps⟩,rest,mem⟩ := c
 cases ri with
 | some x =>
  obtain ⟨ops,l⟩ := x
  cases l with
  | nil =>
   simp only [stepC,nz_eq] at h
   exact runs_top (hih _ h) rfl rfl (fun H ok=>ok.1) (fun ds ro E w T h=>⟨rfl,h⟩)
  | cons i l =>
   simp only [stepC] at h
   cases ho : ops[i]? with
   | none =>
    simp only [ho] at h
    refine runs_top (hih _ h) rfl rfl (fun H ok=>ok.1) (fun ds ro E w T h=>?_)
    simp only [SFrm.dn,CFrm.run,wpOps_cons] at h ⊢
    unfold wpOp
    simp only [ho]
    exact h
   | some o =>
    simp only [ho] at h
    cases hg : guardR ops o tmps with
    | bad=>simp only [hg] at h; exact h.elim
    | no =>
     simp only [hg] at h
     refine runs_top (hih _ h) rfl rfl (fun H ok=>okL_putS ok.1 (by simp [SV.Ok])) (fun ds ro E w T h=>?_)
     refine frm_no ho ((guardR_spec (E := E)).2.1 hg) ?_
     simp only [SFrm.dn] at h ⊢
     rw [← put_den] at h
     exact h
    | fork t b =>
     simp only [hg] at h
     exact runs_fork (t := t) (b := b) ((guardR_spec (E := ⟨fun _=>0,fun _=>(none,0),fun _=>.bool false⟩)).2.2 t b hg) (fun hb=>hih _ (h.1 hb)) (fun hb=>hih _ (h.2 hb))
    | yes =>
     simp only [hg] at h
     have plain : ∀ (key : Nat),Conf.fresh key ⟨⟨fn,some (ops,i :: l),aw,todo,tmps⟩,rest,mem⟩ = true →
       (opr P (evS tmps) mem key o.op).After P C R ⟨⟨fn,some (ops,i :: l),aw,todo,tmps⟩,rest,mem⟩ ops l o.dst → Runs P C ⟨⟨fn,some (ops,i :: l),aw,todo,tmps⟩,rest,mem⟩ R :=
      fun key hf ha=>runs_opr rfl ho hg hf ha
     -- an operation that reads alone
     have quick : quickOp o.op = true → (match opr P (evS tmps) mem 0 o.op with
       | .val ps v _=>needs ps (ih ⟨⟨fn,some (ops,l),aw,todo,putS tmps o.dst v⟩,rest,mem⟩)
       | _=>.stuck : Tree).holds P C R → Runs P C ⟨⟨fn,some (ops,i :: l),aw,todo,tmps⟩,rest,mem⟩ R := by
      intro hq h
      split at h
      ·rename_i ps v m' hr
       obtain ⟨h1,h2⟩ := needs_holds h
       have hr2 := hih _ h2
       intro E H w g ok
       obtain ⟨e1,e2⟩ := oprQ_spec (P := P) (o := o) (v := v) (ps := ps) g ok.1 (by simp only [oprQ,hq,if_true,hr]) h1
       have h3 := hr2 E H w g ⟨okL_putS ok.1 e2,ok.2⟩
       rw [stkRun_eq] at h3 ⊢
       simp only [SFrm.dn] at h3 ⊢
       rw [← put_den] at h3
       exact frm_op ho ((guardR_spec (E := E)).1 hg) (.inl e1) h3
      ·exact h.elim
     have other : (depthK rest 1 fun d=>match keyFor ⟨⟨fn,some (ops,i :: l),aw,todo,tmps⟩,rest,mem⟩ o.dst 40 d with
       | some key=>match opr P (evS tmps) mem key o.op with
        | .val ps v m'=>needs ps (ih ⟨⟨fn,some (ops,l),aw,todo,putS tmps o.dst v⟩,rest,m'⟩)
        | .all ps g=>needs ps (.all fun hs=>ih ⟨⟨fn,some (ops,l),aw,todo,putS tmps o.dst (g (hs 0)).1⟩,rest,(g (hs 0)).2⟩)
        | .bad=>.stuck
       | none=>.stuck : Tree).holds P C R → Runs P C ⟨⟨fn,some (ops,i :: l),aw,todo,tmps⟩,rest,mem⟩ R := by
      intro h
      rw [depthK_eq] at h
      split at h
      ·rename_i key hkey
       exact plain _ (keyFor_spec hkey) (after_of_holds hih h)
      ·exact h.elim
     have both : (match quickOp o.op with
       | true=>(match opr P (evS tmps) mem 0 o.op with
        | .val ps v _=>needs ps (ih ⟨⟨fn,some (ops,l),aw,todo,putS tmps o.dst v⟩,rest,mem⟩)
        | _=>.stuck : Tree)
       | false=>(depthK rest 1 fun d=>match keyFor ⟨⟨fn,some (ops,i :: l),aw,todo,tmps⟩,rest,mem⟩ o.dst 40 d with
        | some key=>match opr P (evS tmps) mem key o.op with
         | .val ps v m'=>needs ps (ih ⟨⟨fn,some (ops,l),aw,todo,putS tmps o.dst v⟩,rest,m'⟩)
         | .all ps g=>needs ps (.all fun hs=>ih ⟨⟨fn,some (ops,l),aw,todo,putS tmps o.dst (g (hs 0)).1⟩,rest,(g (hs 0)).2⟩)
         | .bad=>.stuck
        | none=>.stuck) : Tree).holds P C R → Runs P C ⟨⟨fn,some (ops,i :: l),aw,todo,tmps⟩,rest,mem⟩ R := by
      intro h
      cases hq : quickOp o.op with
      | true=>rw [hq] at h; exact quick hq h
      | false=>rw [hq] at h; exact other h
     split at h
     ·rename_i t x y hop
      split at h
      ·rename_i b ht
       exact runs_fork (t := t) (b := b) ht (fun hb=>hih _ (h.1 hb)) (fun hb=>hih _ (h.2 hb))
      ·exact quick (by rw [hop]; rfl) h
     ·rename_i t a x hop
      split at h
      ·rename_i ps m' hst
       obtain ⟨h1,h2⟩ := needs_holds h
       have hr2 := hih _ h2
       intro E H w g ok
       obtain ⟨w',e1,e2,_⟩ := storeR_spec (P := P) g (ok_evS ok.1 x) hst h1
       have h3 := hr2 E H w' e2 ⟨okL_putS ok.1 (by simp [SV.Ok]),ok.2⟩
       rw [stkRun_eq] at h3 ⊢
       simp only [SFrm.dn] at h3 ⊢
       rw [← put_den] at h3
       refine frm_op ho ((guardR_spec (E := E)).1 hg) (.inr ⟨?_,rfl⟩) h3
       unfold execOp
       simp only [hop,Sem.run_bind]
       rw [den_evS,den_evS,e1]
       rfl
      ·exact h.elim
     ·rename_i cl hop
      split at h
      ·rename_i f first captured hcal
       split at h
       ·rename_i ctr hfind
        rw [depthK_eq] at h
        split at h
        ·rename_i key hkey
         exact runs_ctr rfl ho hg (keyFor_spec hkey) hop hcal (hcs _ (Ctrs.find_mem hfind)) (after_of_holds hih h)
        ·exact h.elim
       ·split at h
        ·rename_i fn' hfn
         split at h
         ·rename_i body hb
          split at h
          ·exact h.elim
          ·rename_i hn
           rw [nz_eq] at h
           exact runs_in rfl ho hg hop hcal hfn hb (by simpa using hn) (hih _ h)
         ·exact h.elim
        ·exact h.elim
      ·exact both h
     ·rename_i t x i' ok hop
      split at h
      ·rename_i al d hlk
       have hr2 := hih _ (brA_holds h)
       intro E H w g ok2
       obtain ⟨e1,e2⟩ := lookR_spec (P := P) g hlk
       have h3 := hr2 E H w g ⟨okL_putS ok2.1 e2,ok2.2⟩
       rw [stkRun_eq] at h3 ⊢
       simp only [SFrm.dn] at h3 ⊢
       rw [← put_den] at h3
       refine frm_op ho ((guardR_spec (E := E)).1 hg) (.inl ?_) h3
       unfold execOp
       simp only [hop,Sem.run_bind]
       rw [den_evS,den_evS,e1]
       rfl
      ·exact h.elim
     ·exact both h
 | none =>
  have hret : ∀ (todo' : List Item),(todo' = [] ∨ ∃ k,todo' = .code .ret :: k) →
    (retC P (fun c=>nz c ih) ⟨⟨fn,none,aw,todo',tmps⟩,rest,mem⟩).holds P C R →
    Runs P C ⟨⟨fn,none,aw,todo',tmps⟩,rest,mem⟩ R := by
   intro todo' htodo h
   simp only [retC] at h
   cases hfn : P.funcs[fn]? with
   | none=>simp only [hfn] at h; exact h.elim
   | some f =>
    simp only [hfn] at h
    cases hres : resS P mem tmps f.results.toList with
    | none=>simp only [hres] at h; exact h.elim
    | some l =>
     simp only [hres] at h
     cases rest with
     | nil =>
      obtain ⟨hrd,h⟩ := h
      intro E H w g ok
      have g' := g.take
      have hl : ∀ D,D ∈ C.x.df → w.heap[D]? = some (.deferred (some [])) := fun D hD=>(g.fix.fx D _ (g.fix.mark D hD).2).1
      obtain ⟨h1,h2⟩ := run_results (P := P) g' ok.1 hres
      have hT : R ((one? l).den E) (takeW C.x.df w) := by
       obtain ⟨H',hle,g2,_⟩ := pubsR_spec (leaves (one? l)) g'
       obtain ⟨e1,e2⟩ := closeV_spec g2 _ (h2.mono hle)
       rw [← e1]
       exact h E H' _ (g2.sub (List.nil_sublist _)) e2
      show Go1 P (kindOf C.x) fn todo' ⟨(SV.denL E tmps).toArray,marksOf C.x.df⟩ w R
      rw [show kindOf C.x = none by simp [kindOf,hrd]]
      rcases htodo with rfl | ⟨k,rfl⟩
      ·exact Go1.fin hfn rfl g.fix.nodup hl h1 hT
      ·exact Go1.ret hfn rfl g.fix.nodup hl h1 hT
     | cons s r =>
      intro E H w g ok
      obtain ⟨h1,h2⟩ := run_results (P := P) g ok.1 hres
      have h : (nz _ ih).holds P C R := h
      rw [nz_eq] at h
      have hr := hih _ h E H w g ⟨okL_putS (ok.2 s List.mem_cons_self) h2,fun f hf=>ok.2 f (List.mem_cons_of_mem _ hf)⟩
      have hT : restOf P C.x ((s :: r).map (SFrm.den E)) R ((one? l).den E) w := by
       simp only [List.map_cons,restOf]
       simp only [SFrm.den] at hr ⊢
       rw [← put_den] at hr
       cases r <;> exact hr
      rw [stkRun_eq]
      show Go1 P none fn todo' ⟨(SV.denL E tmps).toArray,[]⟩ w _
      rcases htodo with rfl | ⟨k,rfl⟩
      ·exact Go1.fin (l := []) hfn rfl List.nodup_nil (fun _ h=>by cases h) h1 hT
      ·exact Go1.ret (l := []) hfn rfl List.nodup_nil (fun _ h=>by cases h) h1 hT
  have one : ∀ (todo' : List Item),(∀ (b : Frame) cs w a K,step P (lone (b.atR a (todo ++ K)) cs w) = .next (lone (b.atR a (todo' ++ K)) cs w)) →
    Runs P C ⟨⟨fn,none,aw,todo',tmps⟩,rest,mem⟩ R → Runs P C ⟨⟨fn,none,aw,todo,tmps⟩,rest,mem⟩ R :=
   fun todo' hs hr=>runs_top hr rfl rfl (fun H ok=>ok.1) (fun ds ro E w T hh=>Go1.step (fun b cs K=>hs b cs w _ K) hh)
  cases todo with
  | nil=>exact hret [] (.inl rfl) h
  | cons it k =>
   cases it
   case inBlock id=>exact one _ (fun b cs w a K=>stepR_inBlock) (hih _ h)
   case inScope bd=>exact one _ (fun b cs w a K=>stepR_inScope) (hih _ h)
   case inLoop bd =>
    simp only [stepC] at h
    split at h
    ·exact one _ (fun b cs w a K=>stepR_inLoop) (hih _ h)
    ·exact headR_sound h
   case inRegion a b=>exact h.elim
   case inRangeFunc a=>exact h.elim
   case endRangeFunc a=>exact h.elim
   case beginRound=>exact h.elim
   case call=>exact h.elim
   case code cd =>
    cases cd
    case refuse=>exact h.elim
    case rangeFunc=>exact h.elim
    case skip=>exact one _ (fun b cs w a K=>stepR_skip) (hih _ h)
    case label n=>exact one _ (fun b cs w a K=>stepR_label) (hih _ h)
    case seq a b=>exact one _ (fun b cs w a K=>stepR_seq) (hih _ h)
    case scope b=>exact one _ (fun b cs w a K=>stepR_scope) (hih _ h)
    case block id b=>exact one _ (fun b cs w a K=>stepR_block) (hih _ h)
    case loop b =>
     -- at the head of a loop
     have headed : Runs P C ⟨⟨fn,none,aw,.inLoop b :: k,tmps⟩,rest,mem⟩ R → Runs P C ⟨⟨fn,none,aw,.code (.loop b) :: k,tmps⟩,rest,mem⟩ R := by
      exact fun hrun=>runs_top hrun rfl rfl (fun H ok=>ok.1) (fun ds ro E w T hh=>Go1.headed hh)
     simp only [stepC] at h
     split at h
     ·refine headed (runs_top (hih _ h) rfl rfl (fun H ok=>ok.1) (fun ds ro E w T hh=>Go1.step (fun fr cs K=>stepR_inLoop) hh))
     ·exact headed (headR_sound h)
    case ret=>exact hret _ (.inr ⟨k,rfl⟩) h
    case exit id =>
     simp only [stepC] at h
     split at h
     ·rename_i k' hk; exact one _ (fun b cs w a K=>stepR_exit (exitTo_append K hk)) (hih _ h)
     ·exact h.elim
    case goto n =>
     simp only [stepC] at h
     split at h
     ·rename_i k' hk; exact one _ (fun b cs w a K=>stepR_goto (gotoIn_append K hk)) (hih _ h)
     ·exact h.elim
    case cond x a b =>
     have go : ∀ (t : Bool),(∀ E,(evS tmps x).den E = .bool t) → Runs P C ⟨⟨fn,none,aw,.code (if t then a else b) :: k,tmps⟩,rest,mem⟩ R → Runs P C ⟨⟨fn,none,aw,.code (.cond x a b) :: k,tmps⟩,rest,mem⟩ R := by
      intro t ht hr
      refine runs_top hr rfl rfl (fun H ok=>ok.1) (fun ds ro E w T hh=>?_)
      exact Go1.step (fun fr cs K=>stepR_cond (by rw [SFrm.dn,den_evS]; exact ht E)) hh
     simp only [stepC] at h
     split at h
     ·rename_i hx; exact go true (fun E=>by rw [hx]; rfl) (hih _ h)
     ·rename_i hx; exact go false (fun E=>by rw [hx]; rfl) (hih _ h)
     ·rename_i t hx
      cases t with
      | true=>exact go true (fun E=>by rw [hx]; rfl) (hih _ (h.1 rfl))
      | false=>exact go false (fun E=>by rw [hx]; rfl) (hih _ (h.2 rfl))
     ·exact h.elim
    case region id ops draw =>
     cases draw with
     | true=>exact drawC_sound hcs hih h
     | false =>
      simp only [stepC] at h
      split at h
      ·rename_i hcalm
       exact runs_top (hih _ h) rfl rfl (fun H ok=>ok.1) (fun ds ro E w T hh=>Go1.region hcalm hh)
      ·exact h.elim
   exact h.elim

theorem execU_sound (hcs : cs.Ok P) (U : FuncId → Bool) : ∀ (n : Nat) (c : Conf),(execU P cs U n c).holds P C R → Runs P C c R
 | 0,_,h=>h.elim
 | n + 1,c,h=>step_sound (U := U) (ih := execU P cs U n) hcs (fun c h=>execU_sound hcs U n c h) c h

theorem exec_sound (hcs : cs.Ok P) (n : Nat) (c : Conf) (h : (exec P cs n c).holds P C R) : Runs P C c R := execU_sound hcs _ n c h
end
end Sx
end
section
namespace Sx
open Go RowKit
structure After (w : World) (H : HV) (w' : World) (H' : HV) : Prop where
 below : Below w.heap.size w w'
 le : HLe H H'
 fresh : ∀ b o v,H' b o = some v → H b o = some v ∨ w.heap.size ≤ b
 cell : ∀ b o v,H' b o = some v → w'.cell? ⟨b,o,none⟩ = some v

def InMem (H : HV) (w : World) : Prop := ∀ b o v,H b o = some v → w.cell? ⟨b,o,none⟩ = some v
def PCall (P : Program) (f : FuncId) (H : HV) (args : List Value) (T : HV → Value → Prop) : Prop :=
 ∀ w,InMem H w → Calls P f args.toArray w fun e w'=>∃ v H',e = .returned v ∧ After w H w' H' ∧ T H' v

def entry (P : Program) (f : FuncId) (args : List SV) : Conf :=
 match P.funcs[f]? with
 | some fn=>match fn.body with
  | some b=>⟨⟨f,none,none,[.code b],args ++ List.replicate (fn.ntmps - args.length) .undef⟩,[],[]⟩
  | none=>⟨⟨f,none,none,[],[]⟩,[],[]⟩
 | none=>⟨⟨f,none,none,[],[]⟩,[],[]⟩
def Bodied (P : Program) (f : FuncId) : Bool :=
 match P.funcs[f]? with
 | some fn=>fn.body.isSome && !(fn.name == "runtime.NumGoroutine")
 | none=>false

theorem bodied_spec {P : Program} {f : FuncId} (h : Bodied P f = true) : ∃ fn,P.funcs[f]? = some fn ∧ fn.body.isSome = true ∧ (fn.name == "runtime.NumGoroutine") = false := by
 unfold Bodied at h
 split at h
 ·rename_i fn hfn
  simp only [Bool.and_eq_true,Bool.not_eq_true'] at h
  exact ⟨fn,hfn,h.1,h.2⟩
 ·cases h

section
variable {P : Program} {f : FuncId} {H : HV}

theorem good_start {w : World} (hc : InMem H w) (E : Env) : Good ⟨w,H⟩ [] E H w :=
 ⟨Below.refl _ _,HLe.refl _,fun _ _ _ h=>.inl h,hc,by simp,List.Pairwise.nil,by simp,fixOk_plain _ _ _⟩
theorem pcall {args : List SV} {T : HV → Value → Prop} (hb : Bodied P f = true) (hok : SV.OkL H args) (E : Env)
  (h : ∀ w,Runs P ⟨w,H⟩ (entry P f args) fun v w'=>∃ H',After w H w' H' ∧ T H' v) : PCall P f H (SV.denL E args) T := by
 intro w hc
 obtain ⟨fn,hfn,hbs,_⟩ := bodied_spec hb
 cases hbody : fn.body with
 | none=>rw [hbody] at hbs; cases hbs
 | some b =>
  have he := h w
  simp only [entry,hfn,hbody] at he
  have hr := he E H w (good_start hc E) ⟨okL_append hok (by rw [SV.OkL_iff]; intro x hx; rw [List.eq_of_mem_replicate hx]; simp [SV.Ok]),by simp⟩
  rw [stkRun_eq] at hr
  simp only [List.map_nil,restOf,SFrm.dn,dsOf,roOf,CFrm.run] at hr
  have e3 : (SV.denL E args).toArray ++ Array.replicate (fn.ntmps - (SV.denL E args).toArray.size) undef = (SV.denL E (args ++ List.replicate (fn.ntmps - args.length) .undef)).toArray := by
   simp [SV.denL_eq,SV.den,← List.toArray_replicate]
  have hcall := calls_of_go1 (P := P) (f := f) (args := (SV.denL E args).toArray) (w := w) hfn hbody (by rw [e3]; exact hr)
  exact Calls.mono hcall fun e w' ⟨v,hv,H',h1,h2⟩=>⟨v,H',hv,h1,h2⟩
theorem after_good {w w' : World} {m : Mem} {E : Env} {H' : HV} (g : Good ⟨w,H⟩ m E H' w') : After w H w' H' := ⟨g.below,g.ext,g.fresh,g.cell⟩

theorem unroll_sound {C : Ctx} {R : Value → World → Prop} {c : Conf} (hri : c.top.ri = none) (h : Runs P C (unroll c) R) : Runs P C c R := by
 obtain ⟨⟨fn,ri,aw,todo,tmps⟩,rest,mem⟩ := c
 simp only at hri
 subst hri
 unfold unroll at h
 split at h
 ·rename_i b k he
  simp only at he
  subst he
  exact runs_top h rfl rfl (fun H ok=>ok.1) (fun ds ro E w T hh=>Go1.step (fun fr cs K=>stepR_inLoop) hh)
 ·exact h
inductive SpecR where
 | scalar (ps : List Prop) (v : SV)
 | data (ps : List Prop) (g : (Nat → D) → SV)
 | no
def SV.flat : SV → Bool
 | .int ..=>true
 | .bool _=>true
 | .lb _=>true
 | _=>false

mutual
def SV.shutV : SV → Bool
 | .int ..=>true
 | .bool _=>true
 | .lb _=>true
 | .str _=>true
 | .nils=>true
 | .dat _=>true
 | .nilp=>true
 | .agg l=>SV.shutL l
 | .tup l=>SV.shutL l
 | _=>false
def SV.shutL : List SV → Bool
 | []=>true
 | x :: r=>SV.shutV x && SV.shutL r
end
def Law (P : Program) (f : FuncId) (spec : List SV → SpecR) : Prop :=
 Bodied P f = true ∧ ∀ (H : HV) (E : Env) (args : List SV),SV.OkL H args →
  match spec args with
  | .scalar ps v=>(∀ p,p ∈ ps → p) → PCall P f H (SV.denL E args) fun _ u=>u = v.den E
  | .data ps g=>(∀ p,p ∈ ps → p) → PCall P f H (SV.denL E args) fun H' u=>∃ hs,u = (g hs).den E ∧ (g hs).Ok H'
  | .no=>True
def ctrOf (spec : List SV → SpecR) : Ctr := fun args _ m =>
 match spec (closeL (pubsR (leavesL args) m) args) with
 | .scalar ps v=>if v.flat then .val ps v m else .bad
 | .data ps g=>.all ps fun hs=>(g hs,pubsR (leavesL args) m)
 | .no=>.bad

theorem closeL_spec {C : Ctx} {E : Env} {H : HV} {w : World} {m : Mem} (g : Good C m E H w) : ∀ l : List SV,SV.OkL H l → SV.denL E (closeL m l) = SV.denL E l ∧ SV.OkL H (closeL m l)
 | [],_=>by simp [closeL,SV.denL,SV.OkL]
 | x :: r,h=>by
  obtain ⟨a,b⟩ := closeV_spec g x h.1
  obtain ⟨c,d⟩ := closeL_spec g r h.2
  exact ⟨by simp only [closeL,SV.denL,a,c],b,d⟩

theorem pubsR_ro {m : Mem} (h : roM m = true) : ∀ l : List SV,pubsR l m = m
 | []=>rfl
 | x :: r=>by
  have hget : ∀ (m : Mem),roM m = true → ∀ k e d,m.get k ≠ some (.arr e d) := by
   intro m
   induction m with
   | nil=>intro _ k e d h; cases h
   | cons y s ih =>
    intro hm k e d hk
    obtain ⟨j,o⟩ := y
    simp only [Mem.get] at hk
    cases o with
    | cells t cs =>
     simp only [roM] at hm
     split at hk
     ·cases hk
     ·exact ih hm k e d hk
    | map es =>
     simp only [roM] at hm
     split at hk
     ·cases hk
     ·exact ih hm k e d hk
    | arr e d=>simp [roM] at hm
    | pub d=>simp [roM] at hm
  have h1 : pubR m x = m := by
   unfold pubR
   split
   ·split
    ·rename_i hk; exact absurd hk (hget m h _ _ _)
    ·rfl
   ·rfl
  rw [pubsR,h1]
  exact pubsR_ro h r

theorem ctrOf_ro {spec : List SV → SpecR} : CtrRO (ctrOf spec) := by
 intro args key m h
 unfold ctrOf
 cases spec (closeL (pubsR (leavesL args) m) args) with
 | no=>trivial
 | scalar ps v=>by_cases hf : v.flat = true <;> simp [hf]
 | data ps g=>simp only [pubsR_ro h]; intros; trivial

theorem ctrOf_ok {spec : List SV → SpecR} (h : Law P f spec) : CtrOk P f (ctrOf spec) := by
 refine ⟨bodied_spec h.1,fun C E H w args key m g hargs hk hk2=>?_,ctrOf_ro⟩
 obtain ⟨H1,hle,g1,nw⟩ := pubsR_spec (leavesL args) g
 have hpm := pubsR_mem (leavesL args) (m := m)
 obtain ⟨e1,e2⟩ := closeL_spec g1 args (SV.OkL.mono hle _ hargs)
 have hl := h.2 H1 E _ e2
 unfold CallRight ctrOf
 cases hs : spec (closeL (pubsR (leavesL args) m) args) with
 | no=>simp
 | scalar ps v =>
  simp only [hs] at hl ⊢
  split
  ·rename_i r ps' v' m' he
   split at he
   ·rename_i hfl
    simp only [OpR.val.injEq] at he
    obtain ⟨rfl,rfl,rfl⟩ := he
    intro hp
    have hc := hl hp w g1.cell
    rw [e1] at hc
    refine Calls.mono hc fun e w' ⟨u,H',he,ha,hu⟩=>?_
    refine ⟨E,H,by rw [he,hu],Agree.refl _ _,HLe.refl _,g.call ha.below (HLe.refl _) (fun _ _ _ h=>.inl h) (fun b o v hb=>ha.cell b o v (ha.le b o v (hle b o v hb))),?_⟩
    refine ⟨by cases v <;> simp [SV.flat] at hfl <;> simp [SV.Ok],ha.below.size,fun b hb _=>ha.below.block b hb,fun _ _ _ h=>.inl h,fun k o h=>.inr ⟨o,h⟩,fun k o h hl=>.inr ⟨k,o,h,hl,rfl⟩,ha.below.os,ha.below.tape,ha.below.output⟩
   ·cases he
  ·rename_i r ps' g' he
   split at he <;> cases he
  ·trivial
 | data ps gg =>
  simp only [hs] at hl ⊢
  intro hp
  have hc := hl hp w g1.cell
  rw [e1] at hc
  refine Calls.mono hc fun e w' ⟨u,H',he,ha,hs',hu,hok⟩=>?_
  exact ⟨hs',E,H',by rw [he,hu],Agree.refl _ _,hle.trans ha.le,g1.call ha.below ha.le ha.fresh ha.cell,hok,ha.below.size,fun b hb _=>ha.below.block b hb,fun b x v h=>(by
   rcases ha.fresh b x v h with h1 | h1
   ·exact (nw b x v h1).imp id .inr
   ·exact .inr (.inl h1)),fun k o h=>.inr (hpm k o h).1,fun k o h hl=>.inr ⟨k,o,(hpm k o h).2 hl,hl,rfl⟩,ha.below.os,ha.below.tape,ha.below.output⟩
end
end Sx
end
section
namespace Sx
open Go

def subC : Code → List Nat → Code
 | c,[]=>c
 | .seq a _,0 :: r=>subC a r
 | .seq _ b,1 :: r=>subC b r
 | .cond _ a _,0 :: r=>subC a r
 | .cond _ _ b,1 :: r=>subC b r
 | .block _ b,0 :: r=>subC b r
 | .loop b,0 :: r=>subC b r
 | .scope b,0 :: r=>subC b r
 | .rangeFunc _ _ a _,0 :: r=>subC a r
 | .rangeFunc _ _ _ b,1 :: r=>subC b r
 | c,_=>c
def cAt (P : Program) (f : FuncId) (p : List Nat) : Code :=
 match P.funcs[f]? with
 | some fn=>match fn.body with
  | some b=>subC b p
  | none=>.skip
 | none=>.skip
def opsAt (P : Program) (f : FuncId) (p : List Nat) : Array Oper :=
 match cAt P f p with
 | .region _ ops _=>ops
 | _=>#[]

def slotS (l : List (Nat × SV)) (t : Nat) (d : SV) : SV :=
 match l with
 | []=>d
 | (u,v) :: r=>if u == t then v else slotS r t d
def mkJ (d : Nat) (l : List (Nat × SV)) : Nat → Nat → List SV
 | _,0=>[]
 | t,n + 1=>slotS l t (.junk (1000 * d + t)) :: mkJ d l (t + 1) n
def mkU (l : List (Nat × SV)) : Nat → Nat → List SV
 | _,0=>[]
 | t,n + 1=>slotS l t .undef :: mkU l (t + 1) n
def mkL (f : FuncId) (todo : List Item) (n : Nat) (l : List (Nat × SV)) (m : Mem) : Conf := ⟨⟨f,none,none,todo,mkJ 0 l 0 n⟩,[],m⟩
end Sx
end
section
namespace Sx
open Go RowKit

def mkInts (h : Hd) (s : Nat) (xs : List Int) : D := .slc h s (xs.map fun x=>[.int .i64 x])
def D.ints (d : D) : List Int := d.rows.map fun r=>match r with | .int _ n :: _=>n | _=>0

def D.IsInts (d : D) : Prop := ∃ h s xs,d = mkInts h s xs

section
variable (h : Hd) (s : Nat) (xs : List Int)
@[simp] theorem mkInts_len : (mkInts h s xs).len = xs.length := by simp [mkInts,D.len,D.rows]
@[simp] theorem mkInts_sz : (mkInts h s xs).sz = s := rfl
@[simp] theorem mkInts_hd : (mkInts h s xs).hd = h := rfl
@[simp] theorem mkInts_isNil : (mkInts h s xs).isNil = h.isNone := rfl
@[simp] theorem mkInts_ints : (mkInts h s xs).ints = xs := by
 simp only [mkInts,D.ints,D.rows,List.map_map]
 have : ((fun r : List D=>match r with | .int _ n :: _=>n | _=>0) ∘ fun x : Int=>[D.int .i64 x]) = id := by funext x; rfl
 rw [this]; simp
@[simp] theorem mkInts_is : (mkInts h s xs).IsInts := ⟨h,s,xs,rfl⟩
@[simp] theorem mkInts_slc : (mkInts h s xs).IsSlc := ⟨h,s,_,rfl⟩
theorem mkInts_cellAt (i j : Nat) : (mkInts h s xs).cellAt i j = if j = 0 then (xs[i]?).map (D.int .i64) else none := by
 simp only [mkInts,D.cellAt,D.rows,List.getElem?_map]
 cases xs[i]? with
 | none=>simp
 | some x=>cases j <;> simp
@[simp] theorem mkInts_getInt (i : Nat) : (mkInts h s xs).getInt i 0 = xs.getD i 0 := by
 simp only [D.getInt,mkInts_cellAt,if_true,List.getD_eq_getElem?_getD]
 cases xs[i]? <;> rfl
@[simp] theorem mkInts_has (i : Nat) : (mkInts h s xs).HasCell i 0 (.int .i64) ↔ i < xs.length := by
 simp only [D.HasCell,mkInts_cellAt,if_true]
 constructor
 ·rintro ⟨n,hn⟩
  cases hx : xs[i]? with
  | none=>simp [hx] at hn
  | some x=>exact (List.getElem?_eq_some_iff.1 hx).1
 ·intro hi
  exact ⟨xs[i],by simp [hi]⟩
end
theorem wrap64 {n : Int} (h1 : -9223372036854775808 ≤ n) (h2 : n ≤ 9223372036854775807) : IntKind.i64.wrap n = n := by
 unfold IntKind.wrap
 simp only [IntKind.bits,IntKind.signed]
 by_cases h : n % 2 ^ 64 ≥ 2 ^ (64 - 1)
 ·simp [h]; omega
 ·simp [h]; omega
end Sx
end
section
namespace Sx
open Go RowKit

theorem noCtr (P : Program) : Ctrs.Ok P [] := fun _ h=>by cases h
def env0 : Env := ⟨fun _=>0,fun _=>(none,0),fun _=>.bool false⟩
theorem runs_loop {P : Program} {C : Ctx} {R : Value → World → Prop} {σ : Type} (L : σ → Conf) (I : σ → Prop) (m : σ → Nat) (hri : ∀ s,(L s).top.ri = none)
  (hstep : ∀ s,I s → (∀ s',I s' → m s' < m s → Runs P C (L s') R) → Runs P C (unroll (L s)) R) : ∀ s,I s → Runs P C (L s) R := by
 have key : ∀ k s,m s = k → I s → Runs P C (L s) R := by
  intro k
  induction k using Nat.strongRecOn with
  | _ k ih =>
   intro s hk hI
   exact unroll_sound (hri s) (hstep s hI fun s' hI' hlt=>ih (m s') (by omega) s' rfl hI')
 exact fun s hI=>key _ s rfl hI
def SV.d? : SV → Option D
 | .nils=>some (.slc none 0 [])
 | .dat d=>some d
 | _=>none

theorem SV.d?_spec {H : HV} {E : Env} {v : SV} {d : D} (h : v.d? = some d) (hok : v.Ok H) : v.den E = d.val ∧ d.Ok H := by
 cases v <;> simp [SV.d?] at h <;> subst h
 ·exact ⟨by simp [SV.den,D.val,hval],.nil 0⟩
 ·exact ⟨by simp [SV.den],hok.1⟩


@[simp] theorem holds_br {P : Program} {C : Ctx} {R : Value → World → Prop} {b : Bool} {t f : Tree} : (Tree.br b t f).holds P C R ↔ (b = true → t.holds P C R) ∧ (b = false → f.holds P C R) := Iff.rfl
theorem ret_plain {P : Program} {w : World} {H : HV} {v : SV} {u : Value} (h : ∀ E,v.den E = u) : (Tree.ret v).holds P ⟨w,H⟩ fun v w'=>∃ H',After w H w' H' ∧ v = u :=
 ⟨rfl,fun E H' w' g _=>⟨H',after_good g,h E⟩⟩
theorem law_of {P : Program} {f : FuncId} {spec : List SV → SpecR} (hb : Bodied P f = true)
  (hs : ∀ args ps v,spec args = .scalar ps v → ∀ (H : HV) (E : Env),SV.OkL H args → (∀ p,p ∈ ps → p) → PCall P f H (SV.denL E args) fun _ u=>u = v.den E)
  (hd : ∀ args ps g,spec args = .data ps g → ∀ (H : HV) (E : Env),SV.OkL H args → (∀ p,p ∈ ps → p) → PCall P f H (SV.denL E args) fun H' u=>∃ hs,u = (g hs).den E ∧ (g hs).Ok H') : Law P f spec := by
 refine ⟨hb,fun H E args hargs=>?_⟩
 cases h : spec args with
 | scalar ps v=>exact hs args ps v h H E hargs
 | data ps g=>exact hd args ps g h H E hargs
 | no=>trivial
end Sx
end
section
namespace Sx
open Go RowKit

class Codec (α : Type) where
 sz : Nat
 ok : List D → Prop
 dec : List D → α
 enc : α → List D
 ok_enc : ∀ a,ok (enc a)
 dec_enc : ∀ a,dec (enc a) = a
 len : ∀ r,ok r → r.length = sz

section
variable (α : Type) [Codec α]
def D.Is (d : D) : Prop := ∃ h s rows,d = .slc h s rows ∧ (rows = [] ∨ s = Codec.sz α) ∧ ∀ r,r ∈ rows → Codec.ok α r
def D.to (d : D) : List α := d.rows.map (Codec.dec (α := α))
end

section
variable {α : Type} [Codec α]

open Classical in
noncomputable def D.like (d : D) (xs : List α) : D := if d.Is α ∧ d.to α = xs then d else .slc none (Codec.sz α) (xs.map Codec.enc)

theorem D.like_is (d : D) (xs : List α) : (d.like xs).Is α := by
 unfold D.like
 split
 ·rename_i h; exact h.1
 ·exact ⟨_,_,_,rfl,.inr rfl,fun r hr=>by obtain ⟨x,_,rfl⟩ := List.mem_map.1 hr; exact Codec.ok_enc x⟩

theorem D.like_to (d : D) (xs : List α) : (d.like xs).to α = xs := by
 unfold D.like
 split
 ·rename_i h; exact h.2
 ·simp only [D.to,D.rows,List.map_map]
  conv=>rhs; rw [← List.map_id xs]
  exact List.map_congr_left fun x _=>Codec.dec_enc x

theorem D.like_self {d : D} {xs : List α} (h : d.Is α) (h' : d.to α = xs) : d.like xs = d := by
 unfold D.like
 rw [if_pos ⟨h,h'⟩]

theorem D.Is.slc {d : D} (h : d.Is α) : d.IsSlc := by obtain ⟨a,b,c,rfl,_⟩ := h; exact ⟨a,b,c,rfl⟩

theorem D.Is.length (d : D) : d.len = (d.to α).length := by simp [D.len,D.to]

theorem D.Is.size {d : D} (h : d.Is α) {i : Nat} (hi : i < (d.to α).length) : d.sz = Codec.sz α := by
 obtain ⟨a,b,c,rfl,h1,h2⟩ := h
 rcases h1 with rfl | h1
 ·simp [D.to,D.rows] at hi
 ·exact h1

theorem D.Is.fits {d : D} (h : d.Is α) : d.Fits (Codec.sz α) := by
 obtain ⟨a,b,c,rfl,h1,h2⟩ := h
 exact h1
theorem D.Is.row {d : D} (h : d.Is α) {i : Nat} (hi : i < (d.to α).length) : ∃ r,d.rows[i]? = some r ∧ Codec.ok α r ∧ (d.to α)[i] = Codec.dec r := by
 obtain ⟨a,b,c,rfl,h1,h2⟩ := h
 simp only [D.to,D.rows,List.length_map] at hi
 refine ⟨c[i],by simp [D.rows,hi],h2 _ (List.getElem_mem hi),by simp [D.to,D.rows]⟩
theorem is_rows {h : Hd} {rows : List (List D)} {s : Nat} (hs : s = Codec.sz α) (hr : ∀ r,r ∈ rows → Codec.ok α r) : (D.slc h s rows).Is α := ⟨_,_,_,rfl,.inr hs,hr⟩

theorem is_nil (h : Hd) (s : Nat) : (D.slc h s []).Is α := ⟨_,_,_,rfl,.inl rfl,by simp⟩

theorem to_slc (h : Hd) (s : Nat) (rows : List (List D)) : (D.slc h s rows).to α = rows.map Codec.dec := rfl
theorem D.Is.sub {d : D} (hd : d.Is α) (l h : Nat) : (d.sub l h).Is α ∧ (d.sub l h).to α = ((d.to α).drop l).take (h - l) := by
 obtain ⟨a,b,c,rfl,h1,h2⟩ := hd
 refine ⟨⟨_,_,_,rfl,?_,fun r hr=>h2 r (List.mem_of_mem_drop (List.mem_of_mem_take hr))⟩,?_⟩
 ·rcases h1 with rfl | h1
  ·left; simp [D.rows]
  ·exact .inr h1
 ·simp [D.sub,D.to,D.rows,List.map_take,List.map_drop]

theorem D.Is.sub3 {d : D} (hd : d.Is α) (l h : Nat) : (d.sub3 l h).Is α ∧ (d.sub3 l h).to α = ((d.to α).drop l).take (h - l) := by
 obtain ⟨a,b,c,rfl,h1,h2⟩ := hd
 refine ⟨⟨_,_,_,rfl,?_,fun r hr=>h2 r (List.mem_of_mem_drop (List.mem_of_mem_take hr))⟩,?_⟩
 ·rcases h1 with rfl | h1
  ·left; simp [D.rows]
  ·exact .inr h1
 ·simp [D.sub3,D.to,D.rows,List.map_take,List.map_drop]
end

/-! Numbers. -/
instance : Codec Int where
 sz := 1
 ok r := ∃ n,r = [.int .i64 n]
 dec r := match r with | .int _ n :: _=>n | _=>0
 enc n := [.int .i64 n]
 ok_enc n := ⟨n,rfl⟩
 dec_enc _ := rfl
 len r := by rintro ⟨n,rfl⟩; rfl

/-! Bytes. -/
structure Byte where
 n : Int
deriving DecidableEq

instance : Codec Byte where
 sz := 1
 ok r := ∃ n,r = [.int .u8 n]
 dec r := match r with | .int _ n :: _=>⟨n⟩ | _=>⟨0⟩
 enc n := [.int .u8 n.n]
 ok_enc n := ⟨n.n,rfl⟩
 dec_enc _ := rfl
 len r := by rintro ⟨n,rfl⟩; rfl

instance : Codec Bool where
 sz := 1
 ok r := ∃ b,r = [.bool b]
 dec r := match r with | .bool b :: _=>b | _=>false
 enc b := [.bool b]
 ok_enc b := ⟨b,rfl⟩
 dec_enc _ := rfl
 len r := by rintro ⟨n,rfl⟩; rfl

@[simp] theorem sz_int : Codec.sz Int = 1 := rfl
@[simp] theorem sz_byte : Codec.sz Byte = 1 := rfl
@[simp] theorem sz_bool : Codec.sz Bool = 1 := rfl
@[simp] theorem ok_int (n : Int) : Codec.ok Int [.int .i64 n] := ⟨n,rfl⟩
@[simp] theorem dec_int (n : Int) : (Codec.dec [.int .i64 n] : Int) = n := rfl
@[simp] theorem ok_bool (b : Bool) : Codec.ok Bool [.bool b] := ⟨b,rfl⟩
@[simp] theorem dec_bool (b : Bool) : (Codec.dec [.bool b] : Bool) = b := rfl
@[simp] theorem ok_byte (n : Int) : Codec.ok Byte [.int .u8 n] := ⟨n,rfl⟩

theorem int_cell {d : D} (h : d.Is Int) {i : Nat} (hi : i < (d.to Int).length) : d.getInt i 0 = (d.to Int)[i] ∧ d.HasCell i 0 (.int .i64) := by
 obtain ⟨r,h1,⟨n,rfl⟩,h3⟩ := h.row hi
 rw [h3]
 exact ⟨by simp [D.getInt,D.cellAt,h1],n,by simp [D.cellAt,h1]⟩

theorem bool_cell {d : D} (h : d.Is Bool) {i : Nat} (hi : i < (d.to Bool).length) : d.getBool i 0 = (d.to Bool)[i] ∧ d.HasCell i 0 .bool := by
 obtain ⟨r,h1,⟨n,rfl⟩,h3⟩ := h.row hi
 rw [h3]
 exact ⟨by simp [D.getBool,D.cellAt,h1],n,by simp [D.cellAt,h1]⟩

end Sx
namespace Sx
@[simp] theorem len_slc (h : Hd) (s : Nat) (rows : List (List D)) : (D.slc h s rows).len = rows.length := rfl
@[simp] theorem rows_slc (h : Hd) (s : Nat) (rows : List (List D)) : (D.slc h s rows).rows = rows := rfl
@[simp] theorem sz_slc (h : Hd) (s : Nat) (rows : List (List D)) : (D.slc h s rows).sz = s := rfl
@[simp] theorem hd_slc (h : Hd) (s : Nat) (rows : List (List D)) : (D.slc h s rows).hd = h := rfl
@[simp] theorem append_list {α : Type _} (a b : List α) : List.append a b = a ++ b := rfl
def SRows (α : Type) [Codec α] (rows : List (List D)) (xs : List α) : Prop := (∀ r,r ∈ rows → Codec.ok α r) ∧ rows.map Codec.dec = xs

section
variable {α : Type} [Codec α]
theorem rows_of {d : D} (h : d.Is α) : SRows α d.rows (d.to α) := by
 obtain ⟨a,b,c,rfl,_,h2⟩ := h
 exact ⟨h2,rfl⟩
theorem rows_app {a b : List (List D)} {xs ys : List α} (h : SRows α a xs) (h' : SRows α b ys) : SRows α (List.append a b) (xs ++ ys) := by
 refine ⟨fun r hr=>?_,by simp [h.2,h'.2]⟩
 rcases List.mem_append.1 hr with hr | hr
 ·exact h.1 r hr
 ·exact h'.1 r hr
theorem rows_one {r : List D} {x : α} (h : Codec.ok α r) (h' : Codec.dec r = x) : SRows α [r] [x] :=
 ⟨fun s hs=>by rw [List.mem_singleton.1 hs]; exact h,by simp [h']⟩
theorem rows_len {rows : List (List D)} {xs : List α} (h : SRows α rows xs) : rows.length = xs.length := by rw [← h.2]; simp
theorem is_of {h : Hd} {s : Nat} {rows : List (List D)} {xs : List α} (hs : s = Codec.sz α) (hr : SRows α rows xs) : (D.slc h s rows).Is α ∧ (D.slc h s rows).to α = xs := ⟨is_rows hs hr.1,hr.2⟩
def Stands (α : Type) [Codec α] (X : SV) (xs : List α) : Prop := ∃ d : D,(∀ E,X.den E = d.val) ∧ d.Is α ∧ d.to α = xs ∧ ∀ H,X.Ok H → d.Ok H

theorem stands_nils : Stands α .nils [] := ⟨.slc none 0 [],fun _=>by simp [SV.den,D.val,hval],is_nil _ _,rfl,fun _ _=>.nil 0⟩
theorem stands_dat {d : D} {xs : List α} (h : d.Is α) (h' : d.to α = xs) : Stands α (.dat d) xs := ⟨d,fun _=>by simp [SV.den],h,h',fun _ h=>h.1⟩
theorem stands_like {d : D} {xs : List α} : Stands α (.dat (d.like xs)) xs := stands_dat (D.like_is d xs) (D.like_to d xs)
end
theorem nil_rows {H : HV} {d : D} (hok : d.Ok H) (hn : d.isNil = true) : d.rows = [] := by
 cases hok with
 | nil=>rfl
 | slc a c sz rows=>simp [D.isNil,D.hd] at hn
 | _=>rfl
end Sx
end
section
namespace Sx
open Go RowKit
structure Rd (β : Type) where
 read : List SV → Option β
 canon : β → List SV
 right : ∀ (H : HV) (E : Env) (args : List SV) (b : β),read args = some b → SV.OkL H args → SV.denL E args = SV.denL E (canon b) ∧ SV.OkL H (canon b)
structure Rd1 (β : Type) where
 read : SV → Option β
 canon : β → SV
 right : ∀ (H : HV) (E : Env) (x : SV) (b : β),read x = some b → x.Ok H → x.den E = (canon b).den E ∧ (canon b).Ok H

def Rd.sp {β : Type} (r : Rd β) (spec : β → SpecR) (args : List SV) : SpecR :=
 match r.read args with
 | some b=>spec b
 | none=>.no

def Rd1.one {α : Type} (a : Rd1 α) : Rd α where
 read l := match l with | [x]=>a.read x | _=>none
 canon b := [a.canon b]
 right H E args b h hok := by
  split at h
  ·obtain ⟨h1,h2⟩ := a.right H E _ b h hok.1
   exact ⟨by simp only [SV.denL,h1],h2,trivial⟩
  ·cases h

def Rd1.two {α β : Type} (a : Rd1 α) (b : Rd1 β) : Rd (α × β) where
 read l := match l with
  | [x,y]=>match a.read x,b.read y with
   | some p,some q=>some (p,q)
   | _,_=>none
  | _=>none
 canon p := [a.canon p.1,b.canon p.2]
 right H E args p h hok := by
  split at h
  ·split at h
   ·rename_i h1 h2
    cases h
    obtain ⟨i1,i2⟩ := a.right H E _ _ h1 hok.1
    obtain ⟨j1,j2⟩ := b.right H E _ _ h2 hok.2.1
    exact ⟨by simp only [SV.denL,i1,j1],i2,j2,trivial⟩
   ·cases h
  ·cases h

def Rd1.three {α β γ : Type} (a : Rd1 α) (b : Rd1 β) (c : Rd1 γ) : Rd (α × β × γ) where
 read l := match l with
  | [x,y,z]=>match a.read x,b.read y,c.read z with
   | some p,some q,some r=>some (p,q,r)
   | _,_,_=>none
  | _=>none
 canon p := [a.canon p.1,b.canon p.2.1,c.canon p.2.2]
 right H E args p h hok := by
  split at h
  ·split at h
   ·rename_i h1 h2 h3
    cases h
    obtain ⟨i1,i2⟩ := a.right H E _ _ h1 hok.1
    obtain ⟨j1,j2⟩ := b.right H E _ _ h2 hok.2.1
    obtain ⟨k1,k2⟩ := c.right H E _ _ h3 hok.2.2.1
    exact ⟨by simp only [SV.denL,i1,j1,k1],i2,j2,k2,trivial⟩
   ·cases h
  ·cases h

def Rd1.four {α β γ δ : Type} (a : Rd1 α) (b : Rd1 β) (c : Rd1 γ) (d : Rd1 δ) : Rd (α × β × γ × δ) where
 read l := match l with
  | [x,y,z,u]=>match a.read x,b.read y,c.read z,d.read u with
   | some p,some q,some r,some s=>some (p,q,r,s)
   | _,_,_,_=>none
  | _=>none
 canon p := [a.canon p.1,b.canon p.2.1,c.canon p.2.2.1,d.canon p.2.2.2]
 right H E args p h hok := by
  split at h
  ·split at h
   ·rename_i h1 h2 h3 h4
    cases h
    obtain ⟨i1,i2⟩ := a.right H E _ _ h1 hok.1
    obtain ⟨j1,j2⟩ := b.right H E _ _ h2 hok.2.1
    obtain ⟨k1,k2⟩ := c.right H E _ _ h3 hok.2.2.1
    obtain ⟨l1,l2⟩ := d.right H E _ _ h4 hok.2.2.2.1
    exact ⟨by simp only [SV.denL,i1,j1,k1,l1],i2,j2,k2,l2,trivial⟩
   ·cases h
  ·cases h
def rdInt : Rd1 Int where
 read x := match x with | .int .i64 n=>some n | _=>none
 canon n := .int .i64 n
 right H E x b h hok := by
  split at h
  ·cases h; exact ⟨rfl,trivial⟩
  ·cases h
def rdBool : Rd1 Bool where
 read x := match x with | .bool b=>some b | .lb b=>some b | _=>none
 canon b := .bool b
 right H E x b h hok := by
  split at h
  ·cases h; exact ⟨rfl,trivial⟩
  ·cases h; exact ⟨by simp [SV.den],trivial⟩
  ·cases h
def rdD : Rd1 D where
 read x := x.d?
 canon d := .dat d
 right H E x d h hok := by
  obtain ⟨h1,h2⟩ := SV.d?_spec (E := E) h hok
  refine ⟨by simpa [SV.den] using h1,h2,?_⟩
  cases x <;> simp [SV.d?] at h
  ·subst h; exact ⟨_,_,_,rfl⟩
  ·subst h; exact hok.2
def RetS (w : World) (H : HV) (v : SV) : Value → World → Prop := fun u w'=>∃ H',After w H w' H' ∧ ∀ E,u = v.den E
def RetD (w : World) (H : HV) (g : (Nat → D) → SV) : Value → World → Prop := fun u w'=>∃ H',After w H w' H' ∧ ∃ ds,(∀ E,u = (g ds).den E) ∧ (g ds).Ok H'

section
variable {P : Program} {w : World} {H : HV}

theorem ret_S {v v' : SV} (h : ∀ E E',v.den E = v'.den E') : (Tree.ret v).holds P ⟨w,H⟩ (RetS w H v') :=
 ⟨rfl,fun E H' _ g _=>⟨H',after_good g,fun E'=>h E E'⟩⟩

theorem ret_int {k : IntKind} {a b : Int} (h : a = b) : (Tree.ret (.int k a)).holds P ⟨w,H⟩ (RetS w H (.int k b)) := by
 subst h; exact ret_S fun _ _=>rfl

theorem ret_bool {a b : Bool} (h : a = b) : (Tree.ret (.bool a)).holds P ⟨w,H⟩ (RetS w H (.bool b)) := by
 subst h; exact ret_S fun _ _=>rfl

theorem ret_lb {a b : Bool} (h : a = b) : (Tree.ret (.lb a)).holds P ⟨w,H⟩ (RetS w H (.bool b)) := by
 subst h; exact ret_S fun _ _=>by simp [SV.den]

theorem ret_D {v : SV} {g : (Nat → D) → SV} (ds : Nat → D) (h : ∀ E E',v.den E = (g ds).den E') (hok : ∀ H',v.Ok H' → (g ds).Ok H') : (Tree.ret v).holds P ⟨w,H⟩ (RetD w H g) :=
 ⟨rfl,fun E H' _ gd hv=>⟨H',after_good gd,ds,fun E'=>h E E',hok H' hv⟩⟩

theorem StkRun.mono {X : CtxX} {R R' : Value → World → Prop} (hr : ∀ v w,R v w → R' v w) : ∀ {r : List CFrm} {c : CFrm} {w : World},StkRun P X c r w R → StkRun P X c r w R'
 | [],_,_,h=>CFrm.run_mono h hr
 | _ :: _,_,_,h=>CFrm.run_mono h fun _ _ h'=>StkRun.mono hr h'

theorem Runs.mono {C : Ctx} {c : Conf} {R R' : Value → World → Prop} (h : Runs P C c R) (hr : ∀ v w,R v w → R' v w) : Runs P C c R' :=
 fun E H w g ok=>StkRun.mono hr (h E H w g ok)

theorem law_in {f : FuncId} {β : Type} (r : Rd β) {spec : β → SpecR} (hb : Bodied P f = true)
  (h : ∀ (H : HV) (w : World) (b : β),SV.OkL H (r.canon b) → match spec b with
   | .scalar ps v=>(∀ p,p ∈ ps → p) → Runs P ⟨w,H⟩ (entry P f (r.canon b)) (RetS w H v)
   | .data ps g=>(∀ p,p ∈ ps → p) → Runs P ⟨w,H⟩ (entry P f (r.canon b)) (RetD w H g)
   | .no=>True) : Law P f (r.sp spec) := by
 refine ⟨hb,fun H E args hargs=>?_⟩
 unfold Rd.sp
 cases hr : r.read args with
 | none=>trivial
 | some b =>
  simp only
  obtain ⟨h1,h2⟩ := r.right H E args b hr hargs
  rw [h1]
  cases hs : spec b with
  | no=>trivial
  | scalar ps v =>
   intro hp
   refine pcall hb h2 E fun w=>?_
   have := h H w b h2
   rw [hs] at this
   exact (this hp).mono fun u w2 ⟨H2,ha,hu⟩=>⟨H2,ha,hu E⟩
  | data ps g =>
   intro hp
   refine pcall hb h2 E fun w=>?_
   have := h H w b h2
   rw [hs] at this
   exact (this hp).mono fun u w2 ⟨H2,ha,ds,hu,hok⟩=>⟨H2,ha,ds,hu E,hok⟩

@[simp] theorem holds_need {C : Ctx} {R : Value → World → Prop} {p : Prop} {t : Tree} : (Tree.need p t).holds P C R ↔ p ∧ t.holds P C R := Iff.rfl
@[simp] theorem holds_all {C : Ctx} {R : Value → World → Prop} {f : (Nat → Nat → D) → Tree} : (Tree.all f).holds P C R ↔ ∀ hs,(f hs).holds P C R := Iff.rfl
end

theorem wrap_succ {j n : Nat} (h : j < n) (hn : n ≤ 1048576) : IntKind.i64.wrap ((j : Int) + 1) = ((j + 1 : Nat) : Int) := by
 rw [wrap64 (by omega) (by omega)]; simp

theorem getD_lt {xs : List Int} {j : Nat} (h : j < xs.length) : xs.getD j 0 = xs[j] := by simp [h]

theorem take_has {xs : List Int} {j : Nat} (h : j < xs.length) (n : Int) : (xs.take (j + 1)).contains n = ((xs.take j).contains n || (xs[j] == n)) := by
 rw [List.take_succ_eq_append_getElem h]
 simp only [List.contains_eq_any_beq,List.any_append,List.any_cons,List.any_nil,Bool.or_false]
 congr 1
 exact Bool.beq_comm
theorem int_at {d : D} (hd : d.Is Int) {j : Nat} (hj : j < (d.to Int).length) :
  (0 ≤ (j : Int) ∧ (j : Int) < (d.len : Int) ∧ d.sz = 1) ∧ d.HasCell (Int.toNat j) 0 (.int .i64) ∧ d.getInt (Int.toNat j) 0 = (d.to Int)[j] := by
 obtain ⟨h1,h2⟩ := int_cell hd hj
 exact ⟨⟨by omega,by rw [D.Is.length (α := Int)]; omega,by rw [hd.size hj]; rfl⟩,h2,h1⟩

end Sx
end
section
namespace Sx
open Go RowKit
inductive TS where
 | int (k : IntKind)
 | bool
 | slc (e : TS)
 | st (fs : List TS)
 | arr (n : Nat) (e : TS)

mutual
def TS.sz : TS → Nat
 | .int _=>1
 | .bool=>1
 | .slc _=>1
 | .st fs=>TS.szL fs
 | .arr n e=>n * e.sz
def TS.szL : List TS → Nat
 | []=>0
 | f :: r=>f.sz + TS.szL r
end

mutual
def TS.fits (P : Program) : TS → TypeId → Bool
 | .int k,t=>match P.underlying t with | some (.int k')=>k' == k | _=>false
 | .bool,t=>match P.underlying t with | some .bool=>true | _=>false
 | .slc e,t=>match P.underlying t with | some (.slice e')=>e.fits P e' && P.cellsOf e' == e.sz && decide (0 < e.sz) | _=>false
 | .st fs,t=>match P.underlying t with | some (.struct gs)=>P.cellsOf t == TS.szL fs && TS.fitsL P fs gs.toList 0 | _=>false
 | .arr n e,t=>match P.underlying t with | some (.array n' e')=>n' == n && P.cellsOf t == n * e.sz && P.cellsOf e' == e.sz && e.fits P e' | _=>false
def TS.fitsL (P : Program) : List TS → List Field → Nat → Bool
 | [],[],_=>true
 | f :: fs,g :: gs,off=>g.offset == off && P.cellsOf g.type == f.sz && f.fits P g.type && TS.fitsL P fs gs (off + f.sz)
 | _,_,_=>false
end

mutual
def TS.Sh : TS → List D → Prop
 | .int k,ds=>∃ n,ds = [.int k n] ∧ (Lit.int k n).wf = true
 | .bool,ds=>∃ b,ds = [.bool b]
 | .slc e,ds=>∃ h s rows,ds = [.slc h s rows] ∧ (rows = [] ∨ s = e.sz) ∧ rows.length ≤ maxLen ∧ ∀ r,r ∈ rows → e.Sh r
 | .st fs,ds=>TS.ShL fs ds
 | .arr n e,ds=>∃ l : List (List D),ds = l.flatten ∧ l.length = n ∧ ∀ r,r ∈ l → e.Sh r
def TS.ShL : List TS → List D → Prop
 | [],ds=>ds = []
 | f :: r,ds=>∃ a b,ds = a ++ b ∧ f.Sh a ∧ TS.ShL r b
end
def allOf (w : World) : HV := fun b o=>w.cell? ⟨b,o,none⟩
theorem allOf_in (w : World) : InMem (allOf w) w := fun _ _ _ h=>h

section
variable {H : Type} {enc : TypeId × Value → H} {P : Program} {w : World} {base : Nat} {spare : Nat → Bool} {held : Bool}
def Gives (w : World) (ts : TS) (cs : List Value) : Prop := ∃ ds : List D,ds.map D.val = cs ∧ (∀ d,d ∈ ds → d.Ok (allOf w)) ∧ ts.Sh ds ∧ ds.length = ts.sz
def GivesL (w : World) (ts : List TS) (cs : List Value) : Prop := ∃ ds : List D,ds.map D.val = cs ∧ (∀ d,d ∈ ds → d.Ok (allOf w)) ∧ TS.ShL ts ds ∧ ds.length = TS.szL ts

theorem gives_slc {e : TS} {t e' : TypeId} (ht : P.underlying t = some (.slice e')) (hc : P.cellsOf e' = e.sz) (h0 : 0 < e.sz) {fuel : Nat} {cs : List Value} {x : DataW H × List MemPlace}
    (h : DataW.trod enc P w base spare held fuel t cs = some x)
    (ih : ∀ n cs x,DataW.trod enc P w base spare held n e' cs = some x → Gives w e cs) : Gives w (.slc e) cs := by
  rcases Deep.open_slice ht h with ⟨rfl,_⟩ | ⟨a,len,cap,m,n,Df,Pl,rfl,hb,hl,hm,hmm,rfl,hx⟩
  · exact ⟨[.slc none 0 []],by simp [D.val,hval],by simp; exact .nil 0,⟨none,0,[],rfl,.inl rfl,Nat.zero_le _,by simp⟩,by simp [TS.sz]⟩
  · have hlm : len ≤ m := by rw [hmm]; split <;> omega
    obtain ⟨f,hf⟩ := Deep.choose_lt (α := List D) (n := len) (p := fun i ds=>(w.cells? base (a.add (i * P.cellsOf e')) (P.cellsOf e') = some (ds.map D.val)) ∧ (∀ d,d ∈ ds → d.Ok (allOf w)) ∧ e.Sh ds ∧ ds.length = e.sz) (fun i hi=>by
      obtain ⟨cs',h1,h2⟩ := hx i (by omega)
      obtain ⟨ds,rfl,h3⟩ := ih _ _ _ h2
      exact ⟨ds,h1,h3⟩)
    have hcell : ∀ i j x,i < len → (f i)[j]? = some x → w.cell? ((a.add (i * e.sz)).add j) = some x.val := by
      intro i j x hi hj
      obtain ⟨h1,_,_,h4⟩ := hf i hi
      obtain ⟨_,_,h2⟩ := World.cells?_some h1
      have hjl : j < P.cellsOf e' := by
        rw [hc,← h4]
        exact (List.getElem?_eq_some_iff.1 hj).1
      rw [← hc,h2 j hjl,List.getElem?_map,hj]; rfl
    have hspot : 0 < len → a.spot = none := by
      intro hl0
      obtain ⟨_,_,_,h4⟩ := hf 0 hl0
      have := hcell 0 0 _ hl0 (List.getElem?_eq_getElem (by omega : 0 < (f 0).length))
      simp only [Nat.zero_mul,Deep.add_add] at this
      simpa [Addr.add] using World.cell?_spot this
    have hadd : ∀ k,0 < len → a.add k = ⟨a.block,a.off + k,none⟩ := fun k hl0=>add_none (hspot hl0) k
    refine ⟨[.slc (some (a,cap)) e.sz ((List.range len).map f)],by simp [D.val,hval],?_,?_,by simp [TS.sz]⟩
    · intro d hd
      rw [List.mem_singleton.1 hd]
      refine .slc a cap e.sz _ (fun hne => hspot (by rcases Nat.eq_zero_or_pos len with h | h; · subst h; simp at hne
                                                     · exact h)) (by simpa using hl) ?_ ?_ ?_
      · intro r hr
        obtain ⟨i,hi,rfl⟩ := List.mem_map.1 hr
        exact (hf i (List.mem_range.1 hi)).2.2.2
      · intro i j r x hr hj
        rw [List.getElem?_map] at hr
        have hi : i < len := by
          rcases Nat.lt_or_ge i len with h | h
          · exact h
          · simp [List.getElem?_range,h] at hr
        simp [List.getElem?_range,hi] at hr
        subst hr
        have := hcell i j x hi hj
        rw [Deep.add_add,hadd _ (by omega)] at this
        simpa [allOf,Nat.add_assoc] using this
      · intro r hr
        obtain ⟨i,hi,rfl⟩ := List.mem_map.1 hr
        exact (hf i (List.mem_range.1 hi)).2.1
    · simp only [TS.Sh]
      refine ⟨_,_,_,rfl,.inr rfl,by simp; omega,fun r hr=>?_⟩
      obtain ⟨i,hi,rfl⟩ := List.mem_map.1 hr
      exact (hf i (List.mem_range.1 hi)).2.2.1

theorem mapM_some_mem {α β : Type} {f : α → Option β} : ∀ (l : List α) (xs : List β),l.mapM f = some xs → ∀ i,i ∈ l → ∃ y,f i = some y
 | [],_,_,i,h=>by cases h
 | a :: l,xs,h,i,hi=>by
  simp only [List.mapM_cons,Option.bind_eq_bind,Option.bind_eq_some_iff] at h
  obtain ⟨y,hy,ys,hys,_⟩ := h
  rcases List.mem_cons.1 hi with rfl | hi
  ·exact ⟨y,hy⟩
  ·exact mapM_some_mem l ys hys i hi
theorem trod_arr {t e : TypeId} {m fuel : Nat} {cs : List Value} {x : DataW H × List MemPlace} (ht : P.underlying t = some (.array m e)) (h : DataW.trod enc P w base spare held fuel t cs = some x) :
  ∃ n,cs.length = P.cellsOf t ∧ ∀ i,i < m → ∃ y,DataW.trod enc P w base spare held n e ((cs.drop (i * P.cellsOf e)).take (P.cellsOf e)) = some y := by
 cases fuel with
 | zero=>simp [DataW.trod] at h
 | succ n =>
  unfold DataW.trod at h
  rw [ht] at h
  simp only at h
  split at h
  ·rename_i hl
   refine ⟨n,hl,fun i hi=>?_⟩
   cases hm : (List.range m).mapM fun i=>DataW.trod enc P w base spare held n e ((cs.drop (i * P.cellsOf e)).take (P.cellsOf e)) with
   | none=>rw [hm] at h; cases h
   | some xs =>
    have := mapM_some_mem (List.range m) xs hm i (List.mem_range.2 hi)
    exact this
  ·cases h

theorem pieces {α : Type} (s : Nat) : ∀ (n : Nat) (cs : List α),cs.length = n * s → ((List.range n).map fun i=>(cs.drop (i * s)).take s).flatten = cs
 | 0,cs,h=>by simp at h; subst h; rfl
 | n + 1,cs,h=>by
  rw [List.range_succ_eq_map,List.map_cons,List.flatten_cons,List.map_map]
  have := pieces s n (cs.drop s) (by rw [List.length_drop,h,Nat.add_mul]; omega)
  have e : ((fun i=>(cs.drop (i * s)).take s) ∘ Nat.succ) = fun i=>((cs.drop s).drop (i * s)).take s := by
   funext i; simp only [Function.comp,List.drop_drop]; congr 2; simp only [Nat.succ_eq_add_one]; rw [Nat.add_mul]; omega
  rw [e,this]
  simp

mutual
theorem gives (ts : TS) (t : TypeId) (hfit : ts.fits P t = true) (fuel : Nat) (cs : List Value) (x : DataW H × List MemPlace)
  (h : DataW.trod enc P w base spare held fuel t cs = some x) : Gives w ts cs := by
 match ts,hfit with
 | .int k,hfit =>
  unfold TS.fits at hfit
  split at hfit
  ·rename_i k' ht
   simp only [beq_iff_eq] at hfit
   subst hfit
   obtain ⟨n,rfl,_,hw⟩ := DataW.trod_int ht h
   exact ⟨[.int k' n],rfl,by simp; exact .int _ _,by simp [TS.Sh,hw],by simp [TS.sz]⟩
  ·cases hfit
 | .bool,hfit =>
  unfold TS.fits at hfit
  split at hfit
  ·rename_i ht
   obtain ⟨n,rfl,_⟩ := DataW.trod_bool ht h
   exact ⟨[.bool n],rfl,by simp; exact .bool _,by simp [TS.Sh],by simp [TS.sz]⟩
  ·cases hfit
 | .slc e,hfit =>
  unfold TS.fits at hfit
  split at hfit
  ·rename_i e' ht
   simp only [Bool.and_eq_true,beq_iff_eq,decide_eq_true_eq] at hfit
   exact gives_slc ht hfit.1.2 hfit.2 h fun n cs x h'=>gives e e' hfit.1.1 n cs x h'
  ·cases hfit
 | .st fs,hfit =>
  unfold TS.fits at hfit
  split at hfit
  ·rename_i gs ht
   simp only [Bool.and_eq_true,beq_iff_eq] at hfit
   obtain ⟨xs,n,_,_,hlen,hxl,hfld⟩ := DataW.trod_struct ht h
   have := givesL fs gs.toList 0 hfit.2 n cs (by simpa using hlen.trans hfit.1) (fun g hg=>by
    obtain ⟨i,hi,hgi⟩ := List.mem_iff_getElem.1 hg
    have h1 := hfld i g (by simpa using (Array.getElem?_eq_some_iff.2 ⟨by simpa using hi,by simpa using hgi⟩))
    rw [List.getElem?_eq_getElem (by rw [hxl]; simpa using hi)] at h1
    exact ⟨_,h1⟩)
   obtain ⟨ds,h1,h2,h3,h4⟩ := this
   exact ⟨ds,by simpa using h1,h2,by simpa [TS.Sh] using h3,by simpa [TS.sz] using h4⟩
  ·cases hfit
 | .arr m e,hfit =>
  unfold TS.fits at hfit
  split at hfit
  ·rename_i m' e' ht
   simp only [Bool.and_eq_true,beq_iff_eq] at hfit
   obtain ⟨⟨⟨rfl,hf1⟩,hf2⟩,hf3⟩ := hfit
   obtain ⟨n,hlen,hx⟩ := trod_arr ht h
   obtain ⟨f,hf⟩ := Deep.choose_lt (α := List D) (n := m') (p := fun i ds=>ds.map D.val = (cs.drop (i * P.cellsOf e')).take (P.cellsOf e') ∧ (∀ d,d ∈ ds → d.Ok (allOf w)) ∧ e.Sh ds ∧ ds.length = e.sz) (fun i hi=>by
    obtain ⟨y,hy⟩ := hx i hi
    exact gives e e' hf3 n _ y hy)
   refine ⟨((List.range m').map f).flatten,?_,?_,?_,?_⟩
   ·rw [← pieces (P.cellsOf e') m' cs (by rw [hlen,hf1,hf2]),List.map_flatten,List.map_map]
    congr 1
    exact List.map_congr_left fun i hi=>(hf i (List.mem_range.1 hi)).1
   ·intro d hd
    obtain ⟨r,hr,hd⟩ := List.mem_flatten.1 hd
    obtain ⟨i,hi,rfl⟩ := List.mem_map.1 hr
    exact (hf i (List.mem_range.1 hi)).2.1 d hd
   ·simp only [TS.Sh]
    refine ⟨_,rfl,by simp,fun r hr=>?_⟩
    obtain ⟨i,hi,rfl⟩ := List.mem_map.1 hr
    exact (hf i (List.mem_range.1 hi)).2.2.1
   ·rw [List.length_flatten,List.map_map]
    have : (List.range m').map (List.length ∘ f) = List.replicate m' e.sz := by
     rw [List.eq_replicate_iff]
     refine ⟨by simp,fun b hb=>?_⟩
     obtain ⟨i,hi,rfl⟩ := List.mem_map.1 hb
     exact (hf i (List.mem_range.1 hi)).2.2.2
    rw [this]; simp [TS.sz]
  ·cases hfit
theorem givesL (ts : List TS) (gs : List Field) (off : Nat) (hfit : TS.fitsL P ts gs off = true) (n : Nat) (cs : List Value) (hlen : cs.length = off + TS.szL ts)
  (h : ∀ g,g ∈ gs → ∃ x,DataW.trod enc P w base spare held n g.type ((cs.drop g.offset).take (P.cellsOf g.type)) = some x) : GivesL w ts (cs.drop off) := by
 match ts,gs,hfit with
 | [],[],hfit =>
  refine ⟨[],?_,by simp,by simp [TS.ShL],by simp [TS.szL]⟩
  simp only [TS.szL] at hlen
  rw [List.drop_eq_nil_of_le (by omega)]; rfl
 | [],_ :: _,hfit=>simp [TS.fitsL] at hfit
 | _ :: _,[],hfit=>simp [TS.fitsL] at hfit
 | f :: fs,g :: gs,hfit =>
  simp only [TS.fitsL,Bool.and_eq_true,beq_iff_eq] at hfit
  obtain ⟨⟨⟨h1,h2⟩,h3⟩,h4⟩ := hfit
  simp only [TS.szL] at hlen
  obtain ⟨x,hx⟩ := h g (by simp)
  rw [h1,h2] at hx
  obtain ⟨d1,e1,o1,s1,l1⟩ := gives f g.type h3 n _ x hx
  obtain ⟨d2,e2,o2,s2,l2⟩ := givesL fs gs (off + f.sz) h4 n cs (by omega) (fun g' hg'=>h g' (by simp [hg']))
  refine ⟨d1 ++ d2,?_,?_,?_,?_⟩
  ·rw [List.map_append,e1,e2,← List.drop_drop,List.take_append_drop]
  ·intro d hd
   rcases List.mem_append.1 hd with hd | hd
   ·exact o1 d hd
   ·exact o2 d hd
  ·exact ⟨d1,d2,rfl,s1,s2⟩
  ·simp [TS.szL,l1,l2]
end
theorem arg_st {r : Reach} {b0 : Nat} {t : TypeId} {fs : List TS} {gs : Array Field} {v : Value} {d : DataW H} {p : List MemPlace} (ht : P.underlying t = some (.struct gs)) (hfit : TS.fits P (.st fs) t = true)
  (hv : Value.okWide P w r b0 t v) (h : DataW.Trod enc P w base spare held t v d p) :
  ∃ ds : List D,v = .agg (ds.map D.val).toArray ∧ (∀ d,d ∈ ds → d.Ok (allOf w)) ∧ TS.ShL fs ds := by
 obtain ⟨cs,rfl,_⟩ := WideShapes.okWide_struct ht hv
 obtain ⟨fuel,hf⟩ := h
 obtain ⟨ds,h1,h2,h3,_⟩ := gives (.st fs) t hfit fuel _ _ hf
 refine ⟨ds,?_,h2,by simpa [TS.Sh] using h3⟩
 rw [h1]; simp [Value.cells]



theorem arg_slc {r : Reach} {b0 : Nat} {t e' : TypeId} {e : TS} {v : Value} {d : DataW H} {p : List MemPlace} (ht : P.underlying t = some (.slice e')) (hfit : TS.fits P (.slc e) t = true)
  (hv : Value.okWide P w r b0 t v) (h : DataW.Trod enc P w base spare held t v d p) :
  ∃ d : D,v = d.val ∧ d.Ok (allOf w) ∧ d.IsSlc ∧ TS.Sh (.slc e) [d] := by
 obtain ⟨a,len,cap,rfl⟩ := WideShapes.okWide_slice ht hv
 obtain ⟨fuel,hf⟩ := h
 obtain ⟨ds,h1,h2,h3,h4⟩ := gives (.slc e) t hfit fuel _ _ hf
 simp only [TS.sz] at h4
 obtain ⟨x,rfl⟩ := List.length_eq_one_iff.1 h4
 simp only [List.map_cons,List.map_nil,Value.cells] at h1
 refine ⟨x,by simpa using h1.symm,h2 x (by simp),?_,h3⟩
 simp only [TS.Sh] at h3
 obtain ⟨a,b,c,h3,_⟩ := h3
 exact ⟨a,b,c,by simpa using h3⟩
end
theorem law_calls {P : Program} {f : FuncId} {spec : List SV → SpecR} (h : Law P f spec) {w : World} {args : List SV} (hok : SV.OkL (allOf w) args)
  (hs : ∃ ps,spec args = .scalar ps (.lb true) ∧ ∀ p,p ∈ ps → p) :
  Calls P f (SV.denL env0 args).toArray w fun e w'=>e = .returned (.bool true) ∧ Below w.heap.size w w' := by
 obtain ⟨ps,hs,hp⟩ := hs
 have h2 := h.2 (allOf w) env0 args hok
 rw [hs] at h2
 exact Calls.mono (h2 hp w (allOf_in w)) fun e w' ⟨u,H',he,ha,hu⟩=>⟨by rw [he,hu]; simp [SV.den],ha.below⟩
end Sx
end
section
namespace Sx
structure Sec where
 b0 : Int
 b1 : Int
 b2 : Int
 b3 : Int
 b4 : Int
 b5 : Int
 b6 : Int
 b7 : Int
deriving DecidableEq
structure Wt where
 vol : Int
 start : Int
 data : List Sec
deriving DecidableEq
structure Ev where
 kind : Int
 write : Int
deriving DecidableEq
structure Hist where
 sizes : List Int
 writes : List Wt
 events : List Ev
deriving DecidableEq

def badSize (n : Int) : Bool := decide (n < 1) || decide (n > 4096)
def sizesErr (l : List Int) : Int := if l.length < 1 ∨ l.length > 8 then 6 else if l.any badSize = true then 2 else 0
def fitsErr (s : List Int) (w : Wt) : Int :=
 if w.vol < 0 ∨ w.vol ≥ s.length then 7 else if w.data.length = 0 then 1
 else if w.start < 0 ∨ w.start > s.getD w.vol.toNat 0 - w.data.length then 2 else 0
def firstErr (s : List Int) : List Wt → Int
 | []=>0
 | w :: r=>if fitsErr s w ≠ 0 then fitsErr s w else firstErr s r

theorem firstErr_cons (s : List Int) (w : Wt) (r : List Wt) : firstErr s (w :: r) = if fitsErr s w ≠ 0 then fitsErr s w else firstErr s r := rfl
theorem firstErr_append (s : List Int) (a b : List Wt) : firstErr s (a ++ b) = if firstErr s a ≠ 0 then firstErr s a else firstErr s b := by
 induction a with
 | nil=>simp [firstErr]
 | cons x r ih =>
  rw [List.cons_append,firstErr_cons,firstErr_cons]
  by_cases h : fitsErr s x ≠ 0
  ·rw [if_pos h,if_pos h,if_pos h]
  ·rw [if_neg h,if_neg h]; exact ih
theorem firstErr_take {s : List Int} {l : List Wt} {i : Nat} (hi : i < l.length) : firstErr s (l.take (i + 1)) = if firstErr s (l.take i) ≠ 0 then firstErr s (l.take i) else fitsErr s l[i] := by
 rw [List.take_succ_eq_append_getElem hi,firstErr_append]
 congr 1
 simp only [firstErr]
 split
 ·rfl
 ·rename_i h; simp only [ne_eq,Decidable.not_not] at h; exact h.symm
theorem firstErr_of_take {s : List Int} {l : List Wt} {i : Nat} (h : firstErr s (l.take i) ≠ 0) : firstErr s l = firstErr s (l.take i) := by
 conv=>lhs; rw [← List.take_append_drop i l]
 rw [firstErr_append,if_pos h]
structure Tl where
 issued : List Int
 acked : List Int
deriving DecidableEq
def evStep (n : Nat) (i : Int) (t : Tl) (e : Ev) : Int × Tl :=
 if e.kind = 0 then (if e.write ≠ t.issued.length ∨ e.write ≥ n then (3,t) else (0,⟨t.issued ++ [i],t.acked ++ [-1]⟩))
 else if e.kind = 1 then (if e.write < 0 ∨ e.write ≥ t.issued.length then (7,t) else if t.acked.getD e.write.toNat 0 ≥ 0 then (8,t) else (0,⟨t.issued,t.acked.set e.write.toNat i⟩))
 else (3,t)
def runEv (n : Nat) (l : List Ev) : Nat → Int × Tl
 | 0=>(0,⟨[],[]⟩)
 | i + 1=>if (runEv n l i).1 ≠ 0 then runEv n l i else match l[i]? with
  | some e=>evStep n i (runEv n l i).2 e
  | none=>runEv n l i
def zTl : Tl := ⟨[],[]⟩
def checkH (h : Hist) : Int × Tl :=
 if sizesErr h.sizes ≠ 0 then (sizesErr h.sizes,zTl)
 else if h.writes.length > 4096 then (6,zTl)
 else if firstErr h.sizes h.writes ≠ 0 then (firstErr h.sizes h.writes,zTl)
 else if (runEv h.writes.length h.events h.events.length).1 ≠ 0 then ((runEv h.writes.length h.events h.events.length).1,zTl)
 else if (runEv h.writes.length h.events h.events.length).2.issued.length < h.writes.length then (3,zTl)
 else (0,(runEv h.writes.length h.events h.events.length).2)
def atEv : List Ev → Ev → Int
 | [],_=>-1
 | x :: r,e=>if x = e then 0 else if atEv r e < 0 then -1 else atEv r e + 1
theorem atEv_nil (e : Ev) : atEv [] e = -1 := rfl
theorem atEv_cons (x : Ev) (r : List Ev) (e : Ev) : atEv (x :: r) e = if x = e then 0 else if atEv r e < 0 then -1 else atEv r e + 1 := rfl
theorem atEv_cases (l : List Ev) (e : Ev) : (atEv l e = -1 ∧ e ∉ l) ∨ (0 ≤ atEv l e ∧ atEv l e < l.length ∧ e ∈ l) := by
 induction l with
 | nil=>exact .inl ⟨rfl,by simp⟩
 | cons x r ih =>
  rw [atEv_cons]
  by_cases h : x = e
  ·right; subst h; rw [if_pos rfl]; simp only [List.length_cons]; exact ⟨Int.le_refl _,by omega,List.mem_cons_self⟩
  ·rw [if_neg h]
   rcases ih with ⟨h1,h2⟩ | ⟨h1,h2,h3⟩
   ·left
    rw [if_pos (by omega)]
    exact ⟨rfl,fun hm=>(List.mem_cons.1 hm).elim (fun he=>h he.symm) h2⟩
   ·right
    rw [if_neg (by omega)]
    simp only [List.length_cons]
    exact ⟨by omega,by omega,List.mem_cons_of_mem _ h3⟩
theorem atEv_append (a b : List Ev) (e : Ev) : atEv (a ++ b) e = if atEv a e < 0 then (if atEv b e < 0 then -1 else atEv b e + a.length) else atEv a e := by
 induction a with
 | nil =>
  rw [List.nil_append,atEv_nil,if_pos (by decide)]
  have := atEv_cases b e
  split
  ·omega
  ·simp
 | cons x r ih =>
  rw [List.cons_append,atEv_cons,atEv_cons]
  by_cases h : x = e
  ·rw [if_pos h,if_pos h,if_neg (by omega)]
  ·rw [if_neg h,if_neg h,ih]
   have h1 := atEv_cases r e
   have h2 := atEv_cases b e
   simp only [List.length_cons]
   generalize atEv r e = p at h1 ⊢
   generalize atEv b e = q at h2 ⊢
   by_cases hp : p < 0
   ·simp only [if_pos hp]
    by_cases hq : q < 0
    ·simp only [if_pos hq]; simp
    ·simp only [if_neg hq]
     rw [if_neg (by omega)]
     rw [if_pos (by decide)]
     omega
   ·simp only [if_neg hp]
    rw [if_neg (by omega)]
theorem atEv_take {l : List Ev} {i : Nat} (hi : i < l.length) (e : Ev) : atEv (l.take (i + 1)) e = if atEv (l.take i) e < 0 then (if l[i] = e then (i : Int) else -1) else atEv (l.take i) e := by
 have h1 : atEv [l[i]] e = if l[i] = e then 0 else -1 := by
  rw [atEv_cons]
  by_cases h : l[i] = e
  ·rw [if_pos h,if_pos h]
  ·rw [if_neg h,if_neg h,if_pos (by rw [atEv_nil]; decide)]
 rw [List.take_succ_eq_append_getElem hi,atEv_append,h1]
 have hl : ((l.take i).length : Int) = i := by rw [List.length_take]; omega
 rw [hl]
 by_cases h : l[i] = e
 ·simp [if_pos h]
 ·simp [if_neg h]
structure TlOk (n : Nat) (l : List Ev) (t : Tl) : Prop where
 len : t.acked.length = t.issued.length
 le : t.issued.length ≤ n
 iss : ∀ w : Nat,(h : w < t.issued.length) → t.issued[w] = atEv l ⟨0,w⟩ ∧ 0 ≤ t.issued[w]
 not : ∀ w : Int,(w < 0 ∨ (t.issued.length : Int) ≤ w) → atEv l ⟨0,w⟩ = -1 ∧ atEv l ⟨1,w⟩ = -1
 ack : ∀ w : Nat,(h : w < t.acked.length) → t.acked[w] = atEv l ⟨1,w⟩
 kind : ∀ e,e ∈ l → (e.kind = 0 ∨ e.kind = 1) ∧ 0 ≤ e.write ∧ e.write < t.issued.length

theorem evStep_ok {n : Nat} {l : List Ev} {i : Nat} (hi : i < l.length) {t : Tl} (h : TlOk n (l.take i) t) (h0 : (evStep n i t l[i]).1 = 0) : TlOk n (l.take (i + 1)) (evStep n i t l[i]).2 := by
 have hat := atEv_take hi
 have hmem : ∀ e,e ∈ l.take (i + 1) → e ∈ l.take i ∨ e = l[i] := fun e he=>by
  rw [List.take_succ_eq_append_getElem hi] at he
  rcases List.mem_append.1 he with he | he
  ·exact .inl he
  ·exact .inr (List.mem_singleton.1 he)
 have hneg : ∀ e,atEv (l.take i) e < 0 → atEv (l.take i) e = -1 := fun e he=>by
  rcases atEv_cases (l.take i) e with ⟨h1,_⟩ | ⟨h1,_⟩
  ·exact h1
  ·omega
 generalize he : l[i] = e at *
 obtain ⟨k,w⟩ := e
 unfold evStep at h0 ⊢
 simp only at h0 ⊢
 by_cases hk : k = 0
 ·subst hk
  rw [if_pos rfl] at h0 ⊢
  by_cases hc : w ≠ t.issued.length ∨ w ≥ n
  ·rw [if_pos hc] at h0; exact absurd h0 (by simp)
  ·rw [if_neg hc]
   have hw : w = t.issued.length := by omega
   subst hw
   have h1 := (h.not t.issued.length (.inr (Int.le_refl _)))
   have hsame : ∀ e,e ≠ ⟨0,t.issued.length⟩ → atEv (l.take (i + 1)) e = atEv (l.take i) e := fun e hne=>by
    rw [hat]
    split
    ·rename_i hl
     rw [if_neg (fun e'=>hne e'.symm),hneg e hl]
    ·rfl
   have hnew : atEv (l.take (i + 1)) ⟨0,t.issued.length⟩ = i := by rw [hat,h1.1,if_pos (by decide),if_pos rfl]
   refine ⟨by simp [h.len],by simp; omega,fun x hx=>?_,fun x hx=>?_,fun x hx=>?_,fun e hm=>?_⟩
   ·simp only [List.length_append,List.length_singleton] at hx
    by_cases hxl : x < t.issued.length
    ·rw [List.getElem_append_left hxl,hsame _ (by intro e'; cases e'; omega)]
     exact h.iss x hxl
    ·have : x = t.issued.length := by omega
     subst this
     rw [List.getElem_append_right (Nat.le_refl _)]
     simp only [Nat.sub_self,List.getElem_cons_zero]
     exact ⟨hnew.symm,by omega⟩
   ·simp only [List.length_append,List.length_singleton] at hx
    have := h.not x (by omega)
    rw [hsame _ (by intro e'; cases e'; omega),hsame _ (by intro e'; cases e')]
    exact this
   ·simp only [List.length_append,List.length_singleton] at hx
    rw [hsame _ (by intro e'; cases e')]
    by_cases hxl : x < t.acked.length
    ·rw [List.getElem_append_left hxl]; exact h.ack x hxl
    ·have : x = t.acked.length := by omega
     subst this
     rw [List.getElem_append_right (Nat.le_refl _)]
     simp only [Nat.sub_self,List.getElem_cons_zero]
     rw [h.len]; exact h1.2.symm
   ·simp only [List.length_append,List.length_singleton]
    rcases hmem e hm with hm | rfl
    ·have := h.kind e hm; exact ⟨this.1,this.2.1,by omega⟩
    ·exact ⟨.inl rfl,by simp only; omega,by simp only; omega⟩
 ·rw [if_neg hk] at h0 ⊢
  by_cases hk1 : k = 1
  ·subst hk1
   rw [if_pos rfl] at h0 ⊢
   by_cases hc : w < 0 ∨ w ≥ t.issued.length
   ·rw [if_pos hc] at h0; exact absurd h0 (by simp)
   ·rw [if_neg hc] at h0 ⊢
    obtain ⟨y,rfl⟩ := Int.eq_ofNat_of_zero_le (show 0 ≤ w by omega)
    have hy : y < t.acked.length := by have := h.len; omega
    by_cases ha : t.acked.getD (Int.toNat (y : Int)) 0 ≥ 0
    ·rw [if_pos ha] at h0; exact absurd h0 (by simp)
    ·rw [if_neg ha]
     have hy2 : t.acked.getD (Int.toNat (y : Int)) 0 = t.acked[y] := by simp [hy]
     rw [hy2,h.ack y hy] at ha
     have hm1 := hneg ⟨1,y⟩ (by omega)
     have hsame : ∀ e,e ≠ ⟨1,(y : Int)⟩ → atEv (l.take (i + 1)) e = atEv (l.take i) e := fun e hne=>by
      rw [hat]
      split
      ·rename_i hl
       rw [if_neg (fun e'=>hne e'.symm),hneg e hl]
      ·rfl
     have hnew : atEv (l.take (i + 1)) ⟨1,(y : Int)⟩ = i := by rw [hat,hm1,if_pos (by decide),if_pos rfl]
     refine ⟨by simp [h.len],h.le,fun x hx=>?_,fun x hx=>?_,fun x hx=>?_,fun e hm=>?_⟩
     ·rw [hsame _ (by intro e'; cases e')]; exact h.iss x hx
     ·have hx : x < 0 ∨ (t.issued.length : Int) ≤ x := hx
      have := h.not x hx
      rw [hsame _ (by intro e'; cases e'),hsame _ (by intro e'; cases e'; omega)]
      exact this
     ·simp only [List.length_set] at hx
      simp only [Int.toNat_natCast,List.getElem_set]
      by_cases hxy : y = x
      ·subst hxy; rw [if_pos rfl,hnew]
      ·rw [if_neg hxy,hsame _ (by intro e'; cases e'; omega)]; exact h.ack x hx
     ·rcases hmem e hm with hm | rfl
      ·exact h.kind e hm
      ·refine ⟨.inr rfl,by simp only; omega,?_⟩; show (y : Int) < (t.issued.length : Int); omega
  ·rw [if_neg hk1] at h0; exact absurd h0 (by simp)

theorem runEv_ok {n : Nat} {l : List Ev} : ∀ i : Nat,i ≤ l.length → (runEv n l i).1 = 0 → TlOk n (l.take i) (runEv n l i).2
 | 0,_,_=>by
  refine ⟨rfl,Nat.zero_le _,fun w h=>absurd h (Nat.not_lt_zero _),fun w _=>⟨rfl,rfl⟩,fun w h=>absurd h (Nat.not_lt_zero _),fun e h=>?_⟩
  simp at h
 | i + 1,hi,h=>by
  have hl : l[i]? = some l[i] := List.getElem?_eq_getElem (by omega)
  simp only [runEv,hl] at h ⊢
  split at h
  ·rename_i hc; exact absurd h hc
  ·rename_i hc
   rw [if_neg hc]
   have h0 : (runEv n l i).1 = 0 := by simpa using hc
   exact evStep_ok (by omega) (runEv_ok i (by omega) h0) h
end Sx
end
section
namespace Sx
theorem evStep_kind {n : Nat} {l : List Ev} {i : Nat} {t : Tl} (h : TlOk n (l.take i) t) (e : Ev) :
  (evStep n i t e).1 = if e.kind = 0 then (if e.write ≠ t.issued.length ∨ (t.issued.length : Int) ≥ n then 3 else 0)
   else if e.kind ≠ 1 then 3 else if atEv (l.take i) ⟨0,e.write⟩ < 0 then 7 else if atEv (l.take i) e ≥ 0 then 8 else 0 := by
 obtain ⟨k,w⟩ := e
 unfold evStep
 simp only
 by_cases hk : k = 0
 ·rw [if_pos hk,if_pos hk]
  by_cases hc : w ≠ t.issued.length ∨ w ≥ n
  ·rw [if_pos hc,if_pos (by omega)]
  ·rw [if_neg hc,if_neg (by omega)]
 ·rw [if_neg hk,if_neg hk]
  by_cases hk1 : k = 1
  ·subst hk1
   rw [if_pos rfl,if_neg (show ¬((1 : Int) ≠ 1) from fun h=>h rfl)]
   by_cases hc : w < 0 ∨ w ≥ t.issued.length
   ·rw [if_pos hc,if_pos (by rw [(h.not w hc).1]; decide)]
   ·rw [if_neg hc]
    obtain ⟨y,rfl⟩ := Int.eq_ofNat_of_zero_le (show 0 ≤ w by omega)
    have hy : y < t.issued.length := by omega
    have hy2 : y < t.acked.length := by have := h.len; omega
    have h1 := h.iss y hy
    rw [if_neg (show ¬(atEv (l.take i) ⟨0,(y : Int)⟩ < 0) from by rw [← h1.1]; omega)]
    have e2 : t.acked.getD (Int.toNat (y : Int)) 0 = atEv (l.take i) ⟨1,y⟩ := by rw [← h.ack y hy2]; simp [hy2]
    rw [e2]
    by_cases ha : atEv (l.take i) ⟨1,y⟩ ≥ 0
    ·rw [if_pos ha,if_pos ha]
    ·rw [if_neg ha,if_neg ha]
  ·rw [if_neg hk1,if_pos hk1]
theorem evStep_len {n : Nat} {i : Int} {t : Tl} {e : Ev} (h0 : (evStep n i t e).1 = 0) : ((evStep n i t e).2.issued.length : Int) = t.issued.length + if e.kind = 0 then 1 else 0 := by
 unfold evStep at h0 ⊢
 split at h0
 ·rename_i hk
  rw [if_pos hk,if_pos hk]
  split at h0
  ·exact absurd h0 (by simp)
  ·rename_i hc; rw [if_neg hc]; simp
 ·rename_i hk
  rw [if_neg hk,if_neg hk]
  split at h0
  ·rename_i hk1
   rw [if_pos hk1]
   split at h0
   ·exact absurd h0 (by simp)
   ·rename_i hc
    rw [if_neg hc]
    split at h0
    ·exact absurd h0 (by simp)
    ·rename_i hd; rw [if_neg hd]; simp
  ·exact absurd h0 (by simp)
theorem checkH_ok {h : Hist} (hc : (checkH h).1 = 0) : TlOk h.writes.length h.events (checkH h).2 ∧ (checkH h).2.issued.length = h.writes.length ∧ sizesErr h.sizes = 0 ∧ h.writes.length ≤ 4096 ∧ firstErr h.sizes h.writes = 0 := by
 unfold checkH at hc ⊢
 split at hc
 ·rename_i h1; exact absurd hc h1
 ·rename_i h1
  rw [if_neg h1]
  split at hc
  ·exact absurd hc (by simp)
  ·rename_i h2
   rw [if_neg h2]
   split at hc
   ·rename_i h3; exact absurd hc h3
   ·rename_i h3
    rw [if_neg h3]
    split at hc
    ·rename_i h4; exact absurd hc h4
    ·rename_i h4
     rw [if_neg h4]
     split at hc
     ·exact absurd hc (by simp)
     ·rename_i h5
      rw [if_neg h5]
      have := runEv_ok (n := h.writes.length) (l := h.events) h.events.length (Nat.le_refl _) (by simpa using h4)
      rw [List.take_length] at this
      exact ⟨this,by have := this.le; simp only at h5 ⊢; omega,by simpa using h1,by omega,by simpa using h3⟩
def beforeT (t : Tl) (a b : Int) : Bool := decide (t.acked.getD a.toNat 0 ≥ 0) && decide (t.acked.getD a.toNat 0 < t.issued.getD b.toNat 0)
def beforeR (l : List Ev) (a b : Int) : Bool := decide (atEv l ⟨1,a⟩ ≥ 0) && decide (atEv l ⟨1,a⟩ < atEv l ⟨0,b⟩)
theorem before_same {n : Nat} {l : List Ev} {t : Tl} (h : TlOk n l t) {a b : Int} (ha : 0 ≤ a ∧ a < t.issued.length) (hb : 0 ≤ b ∧ b < t.issued.length) : beforeT t a b = beforeR l a b := by
 obtain ⟨x,rfl⟩ := Int.eq_ofNat_of_zero_le ha.1
 obtain ⟨y,rfl⟩ := Int.eq_ofNat_of_zero_le hb.1
 have hx : x < t.acked.length := by have := h.len; omega
 have hy : y < t.issued.length := by omega
 have e1 : t.acked.getD (Int.toNat (x : Int)) 0 = atEv l ⟨1,x⟩ := by rw [← h.ack x hx]; simp [hx]
 have e2 : t.issued.getD (Int.toNat (y : Int)) 0 = atEv l ⟨0,y⟩ := by rw [← (h.iss y hy).1]; simp [hy]
 unfold beforeT beforeR
 rw [e1,e2]
def beforeH (h : Hist) (a b : Int) : Bool := decide ((checkH h).1 = 0) && beforeR h.events a b
def isSet (l : List Int) (n : Nat) : Bool := (List.range l.length).all fun i=>decide (0 ≤ l.getD i 0) && decide (l.getD i 0 < n) && (decide (i = 0) || decide (l.getD (i - 1) 0 < l.getD i 0))
end Sx
end
section
namespace Sx
open Go RowKit
noncomputable def execT (P : Program) (cs : Ctrs) (U : FuncId → Bool) (n : Nat) : Conf → Tree :=
 Nat.rec (motive := fun _=>Conf → Tree) (fun c=>.leaf c) (fun _ ih c=>stepC P cs U ih c) n

section
variable {P : Program} {C : Ctx} {cs : Ctrs} {R : Value → World → Prop}

theorem execT_sound (hcs : cs.Ok P) (U : FuncId → Bool) : ∀ (n : Nat) (c : Conf),(execT P cs U n c).holds P C R → Runs P C c R
 | 0,_,h=>h
 | n + 1,c,h=>step_sound (U := U) (ih := execT P cs U n) hcs (fun c h=>execT_sound hcs U n c h) c h
theorem runs_ret {fn : FuncId} {aw : Option Tmp} {k : List Item} {tmps : List SV} {mem : Mem} {f : Func} {l : List SV} (hfn : P.funcs[fn]? = some f) (hres : resS P mem tmps f.results.toList = some l)
  (h : ∀ E H w,Good C.fin mem E H w → (one? l).Ok H → R ((one? l).den E) w) (hrd : C.x.rd = false := by rfl) : Runs P C ⟨⟨fn,none,aw,.code .ret :: k,tmps⟩,[],mem⟩ R := by
 intro E H w g ok
 obtain ⟨h1,h2⟩ := run_results (P := P) g.take ok.1 hres
 show Go1 P (kindOf C.x) fn (.code .ret :: k) ⟨(SV.denL E tmps).toArray,marksOf C.x.df⟩ w R
 rw [show kindOf C.x = none by simp [kindOf,hrd]]
 exact Go1.ret hfn rfl g.fix.nodup (fun D hD=>(g.fix.fx D _ (g.fix.mark D hD).2).1) h1 (h E H _ g.take h2)
def OwnR (w : World) (H : HV) (e : TypeId) (mk : D → D) (u : Value) (w' : World) : Prop :=
 ∃ E1 H' k h,u = (SV.vec k).den E1 ∧ Good ⟨w,H⟩ [(k,.arr e (mk h))] E1 H' w'
abbrev OSpec := List SV → Option (List Prop × TypeId × (D → D))

def OLaw (P : Program) (f : FuncId) (spec : OSpec) : Prop :=
 Bodied P f = true ∧ ∀ (H : HV) (E : Env) (args : List SV),SV.OkL H args →
  match spec args with
  | some (ps,e,mk)=>(∀ p,p ∈ ps → p) → ∀ w,InMem H w → Calls P f (SV.denL E args).toArray w fun r w'=>∃ u,r = .returned u ∧ OwnR w H e mk u w'
  | none=>True

def oCtr (spec : OSpec) : Ctr := fun args key m =>
 match spec (closeL (pubsR (leavesL args) m) args) with
 | some (ps,e,mk)=>.all ps fun hs=>(.vec key,(key,.arr e (mk (hs 0))) :: pubsR (leavesL args) m)
 | none=>.bad

theorem keysEq_len : ∀ {a b : Mem},keysEq a b = true → a.length = b.length
 | [],[],_=>rfl
 | [],_ :: _,h=>by simp [keysEq] at h
 | _ :: _,[],h=>by simp [keysEq] at h
 | _ :: r,_ :: s,h=>by
  simp only [keysEq,Bool.and_eq_true] at h
  simp only [List.length_cons,keysEq_len h.2]

theorem oCtr_ro {spec : OSpec} : CtrRO (oCtr spec) := by
 intro args key m h
 unfold oCtr
 cases hs : spec (closeL (pubsR (leavesL args) m) args) with
 | none=>trivial
 | some x =>
  obtain ⟨ps,e,mk⟩ := x
  simp only
  intro hs hk
  have := keysEq_len hk
  simp [pubsR_ro h] at this

theorem ownsRow_mono {w : World} {a b : Nat} {e : TypeId} {sz : Nat} {v : Value} {n : Nat} {xs : List Value} (h : w.ownsRow a e sz v n xs) (hb : b ≤ a) : w.ownsRow b e sz v n xs := by
 obtain ⟨h1,h2⟩ := h
 refine ⟨h1,h2.imp id fun ⟨g,cap,cur,h3,h4,h5⟩=>⟨g,cap,cur,h3,Nat.le_trans hb h4,h5⟩⟩

theorem oCtr_ok {f : FuncId} {spec : OSpec} (h : OLaw P f spec) : CtrOk P f (oCtr spec) := by
 refine ⟨bodied_spec h.1,fun C E H w args key m g hargs hk hk2=>?_,oCtr_ro⟩
 obtain ⟨H1,hle,g1,nw⟩ := pubsR_spec (leavesL args) g
 have hpm := pubsR_mem (leavesL args) (m := m)
 obtain ⟨e1,e2⟩ := closeL_spec g1 args (SV.OkL.mono hle _ hargs)
 have hl := h.2 H1 E _ e2
 unfold CallRight oCtr
 cases hs : spec (closeL (pubsR (leavesL args) m) args) with
 | none=>simp
 | some x =>
  obtain ⟨ps,e,mk⟩ := x
  simp only [hs] at hl ⊢
  intro hp
  have hc := hl hp w g1.cell
  rw [e1] at hc
  refine Calls.mono hc fun r w' ⟨u,hr,E1,H',k,hd,hu,g2⟩=>?_
  have g3 := g1.call g2.below g2.ext g2.fresh g2.cell
  have o2 := g2.own k _ (List.mem_singleton.2 rfl)
  have ha := E.agree_setV key (E1.b k) (E1.v k)
  have hk' := has_pubsR (leavesL args) hk
  have hbE : (E.setV key (E1.b k) (E1.v k)).b key = E1.b k := by simp [Env.setV]
  have hvE : (E.setV key (E1.b k) (E1.v k)).v key = E1.v k := by simp [Env.setV]
  obtain ⟨hh,sz,rows,q1,q2,q3,q4,q5,q6⟩ := o2
  have hlow : OBlk.Lies (.arr e (mk hd)) → w.heap.size ≤ E1.b k := by
   intro hl
   rw [q1] at hl q3
   simp only [OBlk.Lies,D.hd] at hl
   cases hh with
   | none=>exact absurd rfl hl
   | some ac =>
    obtain ⟨a,c⟩ := ac
    obtain ⟨_,h3⟩ := q3
    have hq6 := (q6 a c rfl).1
    rcases h3 with ⟨h3,_⟩ | ⟨g',cap,cur,h3,h4,_⟩
    ·simp [D.val,hval] at h3
    ·simp only [D.val,hval,Value.slice.injEq,Option.some.injEq] at h3
     have h5 : E1.b k = g' := by have := h3.1; rw [hq6] at this; exact congrArg Addr.block this
     rw [h5]; exact h4
  have g4 : Good C ((key,.arr e (mk hd)) :: pubsR (leavesL args) m) (E.setV key (E1.b k) (E1.v k)) H' w' := by
   refine g3.cons hk' ha (Below.refl _ _) ⟨hh,sz,rows,q1,by rw [hvE]; exact q2,ownsRow_mono q3 g.below.size,q4,q5,fun a c hac=>?_⟩ (fun hl j p hj hlp=>?_)
   ·rw [hbE]; exact q6 a c hac
   ·rw [hbE]
    have h1 := hlow hl
    have h2 := (g1.own j p hj).lt hlp
    omega
  refine ⟨fun _=>hd,E.setV key (E1.b k) (E1.v k),H',by rw [hr,hu]; simp [SV.den,hvE],ha,hle.trans g2.ext,g4,by simp [SV.Ok],?_⟩
  refine ⟨g2.below.size,fun b hb _=>g2.below.block b hb,fun b x v hx=>?_,fun j o hj=>?_,fun j o hj hl=>?_,g2.below.os,g2.below.tape,g2.below.output⟩
  ·rcases g2.fresh b x v hx with h1 | h1
   ·exact (nw b x v h1).imp id .inr
   ·exact .inr (.inl h1)
  ·rcases List.mem_cons.1 hj with hj | hj
   ·exact Or.inl (congrArg Prod.fst hj)
   ·exact .inr (hpm j o hj).1
  ·rcases List.mem_cons.1 hj with hj | hj
   ·have e1 : j = key := congrArg Prod.fst hj
    have e2 : o = .arr e (mk hd) := congrArg Prod.snd hj
    subst e1; subst e2
    rw [hbE]; exact .inl (hlow hl)
   ·refine .inr ⟨j,o,(hpm j o hj).2 hl,hl,?_⟩
    exact (ha.1 j (Mem.has_key hk' _ hj).1).1
theorem calls_of {f : FuncId} {H : HV} {args : List SV} {w : World} {R : Value → World → Prop} (hb : Bodied P f = true) (hok : SV.OkL H args) (E : Env) (hc : InMem H w)
  (h : Runs P ⟨w,H⟩ (entry P f args) R) : Calls P f (SV.denL E args).toArray w fun e w'=>∃ v,e = .returned v ∧ R v w' := by
 obtain ⟨fn,hfn,hbs,_⟩ := bodied_spec hb
 cases hbody : fn.body with
 | none=>rw [hbody] at hbs; cases hbs
 | some b =>
  simp only [entry,hfn,hbody] at h
  have hr := h E H w (good_start hc E) ⟨okL_append hok (by rw [SV.OkL_iff]; intro x hx; rw [List.eq_of_mem_replicate hx]; simp [SV.Ok]),by simp⟩
  rw [stkRun_eq] at hr
  simp only [List.map_nil,restOf,SFrm.dn,dsOf,roOf,CFrm.run] at hr
  have e3 : (SV.denL E args).toArray ++ Array.replicate (fn.ntmps - (SV.denL E args).toArray.size) undef = (SV.denL E (args ++ List.replicate (fn.ntmps - args.length) .undef)).toArray := by
   simp [SV.denL_eq,SV.den,← List.toArray_replicate]
  exact calls_of_go1 (P := P) (f := f) (args := (SV.denL E args).toArray) (w := w) hfn hbody (by rw [e3]; exact hr)
def spClone (α : Type) [Codec α] (e : TypeId) : OSpec := fun args=>match args with
 | [x]=>match rdD.read x with
  | some d=>some ([d.Is α ∧ d.len ≤ 1048576],e,fun h=>.slc h.hd (Codec.sz α) d.rows)
  | none=>none
 | _=>none

theorem olaw_clone {f : FuncId} {α : Type} [Codec α] {e : TypeId} (hb : Bodied P f = true)
  (h : ∀ (H : HV) (w : World) (d : D),d.Ok H → d.Is α → d.len ≤ 1048576 → Runs P ⟨w,H⟩ (entry P f [.dat d]) (OwnR w H e fun h=>.slc h.hd (Codec.sz α) d.rows)) : OLaw P f (spClone α e) := by
 refine ⟨hb,fun H E args hargs=>?_⟩
 unfold spClone
 split
 ·rename_i heq
  split at heq
  ·rename_i x
   split at heq
   ·rename_i d hd
    cases heq
    intro hp w hc
    obtain ⟨h1,h2⟩ := rdD.right H E x d hd hargs.1
    obtain ⟨p1,p2⟩ := hp _ (List.mem_singleton.2 rfl)
    have := calls_of hb (args := [.dat d]) ⟨h2,trivial⟩ E hc (h H w d h2.1 p1 p2)
    have e1 : SV.denL E [x] = SV.denL E [.dat d] := by simp only [SV.denL]; rw [h1]; rfl
    rw [e1]
    exact this
   ·cases heq
  ·cases heq
 ·trivial
theorem own_nil {w : World} {H : HV} {e : TypeId} {sz : Nat} {mk : D → D} {h : D} (hm : mk h = .slc none sz []) : (Tree.ret .nils).holds P ⟨w,H⟩ (OwnR w H e mk) := by
 refine ⟨rfl,fun E H' w' g _=>?_⟩
 refine ⟨E.setV 0 0 (none,0),H',0,h,by simp [SV.den,Env.setV,hval],?_⟩
 refine g.cons (by rfl) (E.agree_setV 0 0 (none,0)) (Below.refl _ _) ?_ (fun _ j p hj _=>by cases hj)
 rw [hm]
 exact ⟨none,sz,[],rfl,by simp [Env.setV],World.ownsRow_nil w' _ e sz,by simp,by simp,by simp⟩
theorem own_ret {w : World} {H : HV} {e : TypeId} {mk : D → D} {fn : FuncId} {aw : Option Tmp} {k : List Item} {tmps : List SV} {mem : Mem} {f : Func} {j : Nat} {d h : D} (hfn : P.funcs[fn]? = some f)
  (hres : resS P mem tmps f.results.toList = some [.vec j]) (hmem : mem = [(j,.arr e d)]) (hd : d = mk h) : (Tree.leaf ⟨⟨fn,none,aw,.code .ret :: k,tmps⟩,[],mem⟩).holds P ⟨w,H⟩ (OwnR w H e mk) := by
 refine runs_ret hfn hres fun E H' w' g _=>?_
 subst hmem
 subst hd
 exact ⟨E,H',j,h,rfl,g⟩
end
end Sx
end
section
open Go
namespace Sx
instance : Codec Sec where
 sz := 8
 ok r := ∃ a b c d e f g h,r = [.int .u8 a,.int .u8 b,.int .u8 c,.int .u8 d,.int .u8 e,.int .u8 f,.int .u8 g,.int .u8 h]
 dec r := match r with | [.int _ a,.int _ b,.int _ c,.int _ d,.int _ e,.int _ f,.int _ g,.int _ h]=>⟨a,b,c,d,e,f,g,h⟩ | _=>⟨0,0,0,0,0,0,0,0⟩
 enc s := [.int .u8 s.b0,.int .u8 s.b1,.int .u8 s.b2,.int .u8 s.b3,.int .u8 s.b4,.int .u8 s.b5,.int .u8 s.b6,.int .u8 s.b7]
 ok_enc s := ⟨_,_,_,_,_,_,_,_,rfl⟩
 dec_enc _ := rfl
 len r := by rintro ⟨_,_,_,_,_,_,_,_,rfl⟩; rfl
def encD {α : Type} [Codec α] (l : List α) : D := .slc none (Codec.sz α) (l.map Codec.enc)
theorem encD_is {α : Type} [Codec α] (l : List α) : (encD l).Is α := ⟨_,_,_,rfl,.inr rfl,fun r hr=>by obtain ⟨x,_,rfl⟩ := List.mem_map.1 hr; exact Codec.ok_enc x⟩
theorem encD_to {α : Type} [Codec α] (l : List α) : (encD l).to α = l := by
 simp only [encD,D.to,D.rows,List.map_map]
 conv=>rhs; rw [← List.map_id l]
 exact List.map_congr_left fun x _=>Codec.dec_enc x
instance : Codec Wt where
 sz := 3
 ok r := ∃ v s d,r = [.int .i64 v,.int .i64 s,d] ∧ d.Is Sec
 dec r := match r with | [.int _ v,.int _ s,d]=>⟨v,s,d.to Sec⟩ | _=>⟨0,0,[]⟩
 enc w := [.int .i64 w.vol,.int .i64 w.start,encD w.data]
 ok_enc w := ⟨_,_,_,rfl,encD_is _⟩
 dec_enc w := by simp only [encD_to]
 len r := by rintro ⟨_,_,_,rfl,_⟩; rfl
instance : Codec Ev where
 sz := 2
 ok r := ∃ k w,r = [.int .i64 k,.int .i64 w]
 dec r := match r with | [.int _ k,.int _ w]=>⟨k,w⟩ | _=>⟨0,0⟩
 enc e := [.int .i64 e.kind,.int .i64 e.write]
 ok_enc e := ⟨_,_,rfl⟩
 dec_enc _ := rfl
 len r := by rintro ⟨_,_,rfl⟩; rfl
structure Vol where
 l : List Sec
deriving DecidableEq
instance : Codec Vol where
 sz := 1
 ok r := ∃ d,r = [d] ∧ d.Is Sec
 dec r := match r with | [d]=>⟨d.to Sec⟩ | _=>⟨[]⟩
 enc v := [encD v.l]
 ok_enc v := ⟨_,rfl,encD_is _⟩
 dec_enc w := by simp only [encD_to]
 len r := by rintro ⟨_,rfl,_⟩; rfl
structure HiD where
 s : D
 w : D
 e : D
def HiD.hist (x : HiD) : Hist := ⟨x.s.to Int,x.w.to Wt,x.e.to Ev⟩
def HiD.Right (x : HiD) : Prop := x.s.Is Int ∧ x.w.Is Wt ∧ x.e.Is Ev ∧ x.s.len ≤ 1048576 ∧ x.w.len ≤ 1048576 ∧ x.e.len ≤ 1048576 ∧ ∀ w,w ∈ x.w.to Wt → w.data.length ≤ 1048576
def rdHi : Rd1 HiD where
 read x := match x with
  | .agg [s,w,e]=>match rdD.read s,rdD.read w,rdD.read e with
   | some s,some w,some e=>some ⟨s,w,e⟩
   | _,_,_=>none
  | _=>none
 canon h := .agg [.dat h.s,.dat h.w,.dat h.e]
 right H E x b h hok := by
  split at h
  ·split at h
   ·rename_i h1 h2 h3
    cases h
    obtain ⟨a1,a2,a3,_⟩ := hok
    obtain ⟨i1,i2⟩ := rdD.right H E _ _ h1 a1
    obtain ⟨j1,j2⟩ := rdD.right H E _ _ h2 a2
    obtain ⟨k1,k2⟩ := rdD.right H E _ _ h3 a3
    refine ⟨?_,i2,j2,k2,trivial⟩
    simp only [SV.den,SV.denL,i1,j1,k1]
    rfl
   ·cases h
  ·cases h
structure WtD where
 v : Int
 s : Int
 d : D
def WtD.wt (x : WtD) : Wt := ⟨x.v,x.s,x.d.to Sec⟩
def rdWt : Rd1 WtD where
 read x := match x with
  | .agg [.int .i64 v,.int .i64 s,d]=>match rdD.read d with
   | some d=>some ⟨v,s,d⟩
   | _=>none
  | _=>none
 canon h := .agg [.int .i64 h.v,.int .i64 h.s,.dat h.d]
 right H E x b h hok := by
  split at h
  ·split at h
   ·rename_i h1
    cases h
    obtain ⟨_,_,a3,_⟩ := hok
    obtain ⟨i1,i2⟩ := rdD.right H E _ _ h1 a3
    refine ⟨?_,trivial,trivial,i2,trivial⟩
    simp only [SV.den,SV.denL,i1]
    rfl
   ·cases h
  ·cases h
structure CkD where
 s : D
 w : D
 e : D
 i : D
 a : D
def rdCk : Rd1 CkD where
 read x := match x with
  | .agg [s,w,e,i,a]=>match rdD.read s,rdD.read w,rdD.read e,rdD.read i,rdD.read a with
   | some s,some w,some e,some i,some a=>some ⟨s,w,e,i,a⟩
   | _,_,_,_,_=>none
  | _=>none
 canon h := .agg [.dat h.s,.dat h.w,.dat h.e,.dat h.i,.dat h.a]
 right H E x b h hok := by
  split at h
  ·split at h
   ·rename_i h1 h2 h3 h4 h5
    cases h
    obtain ⟨a1,a2,a3,a4,a5,_⟩ := hok
    obtain ⟨i1,i2⟩ := rdD.right H E _ _ h1 a1
    obtain ⟨j1,j2⟩ := rdD.right H E _ _ h2 a2
    obtain ⟨k1,k2⟩ := rdD.right H E _ _ h3 a3
    obtain ⟨l1,l2⟩ := rdD.right H E _ _ h4 a4
    obtain ⟨m1,m2⟩ := rdD.right H E _ _ h5 a5
    refine ⟨?_,i2,j2,k2,l2,m2,trivial⟩
    simp only [SV.den,SV.denL,i1,j1,k1,l1,m1]
    rfl
   ·cases h
  ·cases h
end Sx
end
section
open Go
namespace Sx
abbrev tsJ : TS := .int .i64
abbrev tsSec : TS := .arr 8 (.int .u8)
abbrev tsWt : List TS := [tsJ,tsJ,.slc tsSec]

theorem shJ {ds : List D} (h : TS.Sh tsJ ds) : ∃ n,ds = [.int .i64 n] := by
 simp only [TS.Sh] at h
 obtain ⟨n,h,_⟩ := h
 exact ⟨n,h⟩
theorem shSlc {e : TS} {ds : List D} (h : TS.Sh (.slc e) ds) : ∃ d,ds = [d] ∧ TS.Sh (.slc e) [d] := by
 have h' := h
 simp only [TS.Sh] at h
 obtain ⟨a,s,rows,rfl,_⟩ := h
 exact ⟨_,rfl,h'⟩
theorem shSl {α : Type} [Codec α] {e : TS} (hs : e.sz = Codec.sz α) (ho : ∀ r,e.Sh r → Codec.ok α r) {d : D} (h : TS.Sh (.slc e) [d]) : d.Is α ∧ d.IsSlc ∧ d.len ≤ maxLen := by
 simp only [TS.Sh] at h
 obtain ⟨a,s,rows,h1,h2,h3,h4⟩ := h
 simp only [List.cons.injEq,and_true] at h1
 subst h1
 exact ⟨⟨a,s,rows,rfl,h2.imp id fun h=>by rw [h]; exact hs,fun r hr=>ho r (h4 r hr)⟩,⟨_,_,_,rfl⟩,h3⟩
theorem shSec {ds : List D} (h : TS.Sh tsSec ds) : Codec.ok Sec ds := by
 simp only [TS.Sh] at h
 obtain ⟨l,rfl,h1,h2⟩ := h
 match l,h1 with
 | [r0,r1,r2,r3,r4,r5,r6,r7],_ =>
  obtain ⟨a,rfl,_⟩ := h2 r0 (by simp)
  obtain ⟨b,rfl,_⟩ := h2 r1 (by simp)
  obtain ⟨c,rfl,_⟩ := h2 r2 (by simp)
  obtain ⟨d,rfl,_⟩ := h2 r3 (by simp)
  obtain ⟨e,rfl,_⟩ := h2 r4 (by simp)
  obtain ⟨f,rfl,_⟩ := h2 r5 (by simp)
  obtain ⟨g,rfl,_⟩ := h2 r6 (by simp)
  obtain ⟨i,rfl,_⟩ := h2 r7 (by simp)
  exact ⟨_,_,_,_,_,_,_,_,rfl⟩
theorem shInts {d : D} (h : TS.Sh (.slc tsJ) [d]) : d.Is Int ∧ d.IsSlc ∧ d.len ≤ maxLen := shSl rfl (fun r hr=>by obtain ⟨n,rfl⟩ := shJ hr; exact ⟨n,rfl⟩) h
theorem shSecs {d : D} (h : TS.Sh (.slc tsSec) [d]) : d.Is Sec ∧ d.IsSlc ∧ d.len ≤ maxLen := shSl rfl (fun r hr=>shSec hr) h
theorem sh_wt {ds : List D} (h : TS.ShL tsWt ds) : ∃ v s d,ds = [.int .i64 v,.int .i64 s,d] ∧ d.Is Sec ∧ d.IsSlc := by
 simp only [tsWt,TS.ShL] at h
 obtain ⟨_,_,rfl,h1,_,_,rfl,h2,_,_,rfl,h3,rfl⟩ := h
 obtain ⟨v,rfl⟩ := shJ h1
 obtain ⟨s,rfl⟩ := shJ h2
 obtain ⟨d,rfl,h3⟩ := shSlc h3
 exact ⟨v,s,d,rfl,(shSecs h3).1,(shSecs h3).2.1⟩
end Sx
end
section
open Go
namespace Sx
end Sx
end
section
namespace Sx
open Go RowKit
class Plain (α : Type) [Codec α] where
 cells : D → Nat → α → List D
 right : ∀ d i r,d.rows[i]? = some r → Codec.ok α r → cells d i (Codec.dec r) = r

section
variable {α : Type} [Codec α] [Plain α]

def plainRows (d : D) : Nat → List α → List (List D)
 | _,[]=>[]
 | i,x :: r=>Plain.cells d i x :: plainRows d (i + 1) r

def D.plain (d : D) (l : List α) : D :=
 .slc d.hd (match l with | []=>d.sz | _ :: _=>Codec.sz α) (plainRows d 0 l)

theorem plainRows_eq (d : D) : ∀ (rows : List (List D)) (i : Nat),(∀ j,(h : j < rows.length) → d.rows[i + j]? = some rows[j]) → (∀ r,r ∈ rows → Codec.ok α r) →
  plainRows d i (rows.map (Codec.dec (α := α))) = rows
 | [],_,_,_=>rfl
 | r :: rs,i,h,ho=>by
  simp only [List.map_cons,plainRows]
  rw [Plain.right d i r (h 0 (by simp)) (ho r (by simp)),plainRows_eq d rs (i + 1) (fun j hj=>by have := h (j + 1) (by simpa using hj); simpa [Nat.add_assoc,Nat.add_comm 1 j] using this) fun r' hr'=>ho r' (by simp [hr'])]

theorem plain_self {d : D} (h : d.Is α) : d.plain (d.to α) = d := by
  obtain ⟨a,b,c,rfl,h1,h2⟩ := h
  unfold D.plain D.to
  simp only [D.rows,D.hd]
  rw [plainRows_eq (α := α) (.slc a b c) c 0 (fun j hj=>by simp [D.rows,hj]) h2]
  cases c with
  | nil=>rfl
  | cons x r => rcases h1 with h1 | h1
                · cases h1
                · subst h1; rfl

theorem plain_like (d : D) (l : List α) : (d.like l).plain l = d.like l := by
 have := plain_self (D.like_is d l)
 rwa [D.like_to] at this
end

instance : Plain Int where
 cells _ _ n := [.int .i64 n]
 right d i r _ h := by obtain ⟨n,rfl⟩ := h; rfl

instance : Plain Byte where
 cells _ _ n := [.int .u8 n.n]
 right d i r _ h := by obtain ⟨n,rfl⟩ := h; rfl
def intRows : List (List D) → Bool
 | []=>true
 | r :: rs=>match r with
  | [.int .i64 _]=>intRows rs
  | _=>false
def D.allInt (d : D) : Bool :=
 match d with
 | .slc _ s rows=>(match rows with | []=>true | _ :: _=>s == 1) && intRows rows
 | _=>false
theorem intRows_ok : ∀ (rows : List (List D)),intRows rows = true → ∀ r,r ∈ rows → Codec.ok Int r
 | [],_,r,h=>by cases h
 | x :: rs,h,r,hr=>by
  unfold intRows at h
  split at h
  ·rcases List.mem_cons.1 hr with rfl | hr
   ·exact ⟨_,rfl⟩
   ·exact intRows_ok rs h r hr
  ·cases h
theorem allInt_is {d : D} (h : d.allInt = true) : d.Is Int := by
 unfold D.allInt at h
 split at h
 ·rename_i a s rows
  simp only [Bool.and_eq_true] at h
  refine ⟨_,_,_,rfl,?_,intRows_ok _ h.2⟩
  cases rows with
  | nil=>exact .inl rfl
  | cons x r=>right; simpa using h.1
 ·cases h
theorem law_alt {P : Program} {f : FuncId} {β : Type} {r : Rd β} {sp sp' : β → SpecR} (h : Law P f (r.sp sp))
  (hh : ∀ b,match sp' b with
   | .no=>True
   | .data ps' g'=>∃ ps g,sp b = .data ps g ∧ ((∀ p,p ∈ ps' → p) → ∀ p,p ∈ ps → p) ∧ ∀ ds,∃ ds',g' ds' = g ds
   | .scalar ps' v'=>∃ ps v,sp b = .scalar ps v ∧ ((∀ p,p ∈ ps' → p) → ∀ p,p ∈ ps → p) ∧ v' = v) : Law P f (r.sp sp') := by
 refine ⟨h.1,fun H E args hargs=>?_⟩
 have h2 := h.2 H E args hargs
 unfold Rd.sp at h2 ⊢
 cases hr : r.read args with
 | none=>trivial
 | some b =>
  have hb := hh b
  rw [hr] at h2
  simp only at h2 ⊢
  cases hs : sp' b with
  | no=>trivial
  | scalar ps' v' =>
   rw [hs] at hb
   obtain ⟨ps,v,e,h3,rfl⟩ := hb
   rw [e] at h2
   exact fun hp=>h2 (h3 hp)
  | data ps' g' =>
   rw [hs] at hb
   obtain ⟨ps,g,e,h3,h4⟩ := hb
   rw [e] at h2
   intro hp w hw
   refine Calls.mono (h2 (h3 hp) w hw) fun e w' ⟨u,H',h5,h6,hs',h7,h8⟩=>?_
   obtain ⟨ds',h9⟩ := h4 hs'
   exact ⟨u,H',h5,h6,ds',by rw [h9]; exact h7,by rw [h9]; exact h8⟩
end Sx
end
section
namespace Sx
open Go
noncomputable def Tree.dec : Tree → Tree
 | .leaf c=>.leaf c
 | .ret v=>.ret v
 | .br b t f=>match b with
  | true=>t.dec
  | false=>f.dec
 | .need p t=>.need p t.dec
 | .all f=>.all fun hs=>(f hs).dec
 | .stuck=>.stuck

theorem Tree.dec_holds {P : Program} {C : Ctx} {R : Value → World → Prop} (t : Tree) : t.dec.holds P C R → t.holds P C R := by
 induction t with
 | leaf _=>exact id
 | ret _=>exact id
 | br b t f iht ihf =>
  intro h
  cases b with
  | true=>exact ⟨fun _=>iht h,fun h'=>absurd h' (by decide)⟩
  | false=>exact ⟨fun h'=>absurd h' (by decide),fun _=>ihf h⟩
 | need _ t ih=>exact fun h=>⟨h.1,ih h.2⟩
 | all f ih=>exact fun h hs=>ih hs (h hs)
 | stuck=>exact id

theorem dec_sound {P : Program} {C : Ctx} {R : Value → World → Prop} {cs : Ctrs} (hcs : cs.Ok P) (U : FuncId → Bool) (n : Nat) (c : Conf) {t : Tree}
  (e : (execU P cs U n c).dec = t) (h : t.holds P C R) : Runs P C c R :=
 execU_sound hcs U n c (Tree.dec_holds _ (by rw [e]; exact h))
end Sx
end
section
open Go
namespace Sx
def rdFn (f : FuncId) : Rd1 Unit where
 read x := match x with
  | .fn g [] []=>if g == f then some () else none
  | _=>none
 canon _ := .fn f [] []
 right H E x b h hok := by
  split at h
  ·split at h
   ·rename_i hg
    simp at hg
    subst hg
    exact ⟨rfl,trivial,trivial⟩
   ·cases h
  ·cases h
def rdNone : Rd Unit where
 read l := match l with | []=>some () | _=>none
 canon _ := []
 right H E args b h hok := by
  split at h
  ·exact ⟨rfl,trivial⟩
  ·cases h
def spTrue (_ : Unit) : SpecR := .scalar [] (.lb true)

def idxP (l : List Int) (p : Int → Bool) : Int := match l.findIdx? p with
 | some i=>i
 | none=>-1
theorem idxP_any (xs : List Int) (p : Int → Bool) : decide (idxP xs p ≥ 0) = xs.any p := by
 rw [Bool.eq_iff_iff]
 simp only [idxP,ge_iff_le,decide_eq_true_eq]
 cases hf : xs.findIdx? p with
 | none =>
  rw [List.findIdx?_eq_none_iff] at hf
  simp only
  constructor
  ·intro h; omega
  ·intro h
   obtain ⟨x,h1,h2⟩ := List.any_eq_true.1 h
   rw [hf x h1] at h2; cases h2
 | some i =>
  rw [List.findIdx?_eq_some_iff_getElem] at hf
  obtain ⟨hi,h1,_⟩ := hf
  have : xs.any p = true := List.any_eq_true.2 ⟨_,List.getElem_mem hi,h1⟩
  simp only [this,iff_true]
  omega

theorem ret_sure {P : Program} {w : World} {H : HV} {b : Bool} (h : b = true) : (Tree.ret (.bool b)).holds P ⟨w,H⟩ (RetS w H (.lb true)) := by
 subst h; exact ret_S fun _ _=>by simp [SV.den]
theorem ret_lbt {P : Program} {w : World} {H : HV} : (Tree.ret (.lb true)).holds P ⟨w,H⟩ (RetS w H (.lb true)) := ret_S fun _ _=>rfl
theorem law_sure {P : Program} {f : FuncId} {β : Type} {r : Rd β} {sp sp' : β → SpecR} (h : Law P f (r.sp sp))
  (hh : ∀ b,∃ ps v ps',sp b = .scalar ps (.bool v) ∧ sp' b = .scalar ps' (.lb true) ∧ ((∀ p,p ∈ ps' → p) → (∀ p,p ∈ ps → p) ∧ v = true)) : Law P f (r.sp sp') := by
 refine ⟨h.1,fun H E args hargs=>?_⟩
 have h2 := h.2 H E args hargs
 unfold Rd.sp at h2 ⊢
 cases hr : r.read args with
 | none=>trivial
 | some b =>
  obtain ⟨ps,v,ps',e1,e2,h3⟩ := hh b
  rw [hr] at h2
  simp only [e1] at h2
  simp only [e2]
  intro hp
  obtain ⟨h4,rfl⟩ := h3 hp
  have h5 := h2 h4
  simpa [SV.den] using h5

def iff (b : Bool) (s : SpecR) : SpecR := match b with | true=>s | false=>.no
def tabD {γ : Type} [DecidableEq γ] (v : γ) : List γ → (γ → SpecR) → SpecR
 | [],_=>.no
 | t :: r,k=>match decide (v = t) with
  | true=>k t
  | false=>tabD v r k
theorem tabD_or {γ : Type} [DecidableEq γ] (v : γ) (k : γ → SpecR) : ∀ l,tabD v l k = .no ∨ tabD v l k = k v
 | []=>.inl rfl
 | t :: r=>by
  unfold tabD
  cases h : decide (v = t) with
  | true=>right; simp only [decide_eq_true_eq] at h; subst h; rfl
  | false=>exact tabD_or v k r
theorem law_tab {P : Program} {f : FuncId} {β : Type} {r : Rd β} {sp : β → SpecR} {γ : Type} [DecidableEq γ] (h : Law P f (r.sp sp)) (c : β → Bool) (v : β → γ) (tab : List γ) (k : γ → SpecR)
  (hh : ∀ b,c b = true → match k (v b) with
   | .no=>True
   | .data ps' g'=>∃ ps g,sp b = .data ps g ∧ ((∀ p,p ∈ ps' → p) → ∀ p,p ∈ ps → p) ∧ ∀ ds,∃ ds',g' ds' = g ds
   | .scalar ps' v'=>∃ ps v,sp b = .scalar ps v ∧ ((∀ p,p ∈ ps' → p) → ∀ p,p ∈ ps → p) ∧ v' = v) :
  Law P f (r.sp fun b=>iff (c b) (tabD (v b) tab k)) :=
 law_alt h fun b=>by
  unfold iff
  cases hc : c b with
  | false=>trivial
  | true =>
   simp only
   rcases tabD_or (v b) k tab with h1 | h1
   ·rw [h1]; trivial
   ·rw [h1]; exact hh b hc
theorem vecIn_to {P : Program} {C : Ctx} {R : Value → World → Prop} (K : Nat) (e : TypeId) (sz : Nat) (blk : Option Nat) (off : Nat) {c : Conf} (c' : Conf)
  (hc : (vecIn K e sz blk off c).map (fun c=>sortC (renC c)) = some c') (h : Runs P C c' R) : Runs P C c R := by
 cases hv : vecIn K e sz blk off c with
 | none=>rw [hv] at hc; cases hc
 | some c2 =>
  rw [hv] at hc
  cases hc
  exact vecIn_sound hv (renC_sound (sortC_sound h))

theorem vecIn2_to {P : Program} {C : Ctx} {R : Value → World → Prop} (K : Nat) (e : TypeId) (sz : Nat) (blk : Option Nat) (off : Nat) (K' : Nat) (e' : TypeId) (sz' : Nat) (blk' : Option Nat) (off' : Nat) {c : Conf} (c' : Conf)
  (hc : ((vecIn K e sz blk off c).bind (vecIn K' e' sz' blk' off')).map (fun c=>sortC (renC c)) = some c') (h : Runs P C c' R) : Runs P C c R := by
 cases hv : vecIn K e sz blk off c with
 | none=>rw [hv] at hc; cases hc
 | some c2 =>
  rw [hv] at hc
  exact vecIn_sound hv (vecIn_to K' e' sz' blk' off' c' hc h)


theorem set_full {α : Type} [Codec α] {d : D} (hd : d.Is α) {i : Nat} (hi : i < (d.to α).length) {xs : List D} {x : α} (hl : xs.length = Codec.sz α) (hc : Codec.ok α xs) (hx : Codec.dec xs = x) :
  (d.setCells i 0 xs).Is α ∧ (d.setCells i 0 xs).to α = (d.to α).set i x := by
 have hz := hd.size hi
 have hr := rows_of hd
 have hl' := rows_len hr
 have e : cutIn (d.rows.getD i []) 0 xs = xs := by
  have h1 : d.rows.getD i [] = d.rows[i] := by simp [hl',hi]
  have h2 := Codec.len (α := α) d.rows[i] (hr.1 _ (List.getElem_mem _))
  rw [h1]
  simp only [cutIn,List.take_zero,List.nil_append,Nat.zero_add]
  rw [List.drop_eq_nil_of_le (by omega),List.append_nil]
 have := is_of (α := α) (h := d.hd) (s := d.sz) (rows := d.rows.set i xs) (xs := (d.to α).set i x) hz ⟨fun r hr'=>by
  rcases List.mem_or_eq_of_mem_set hr' with h | h
  ·exact hr.1 r h
  ·rw [h]; exact hc,by rw [List.map_set,hr.2,hx]⟩
 unfold D.setCells
 rw [e]
 exact this
theorem copy_at {α : Type} [Codec α] {s : Nat} (h1 : Codec.sz α = s) {d : D} (hd : d.Is α) (a b : Hd) : (D.slc a s (List.append (D.rows (D.slc b s [])) (D.rows d))).Is α ∧ (D.slc a s (List.append (D.rows (D.slc b s [])) (D.rows d))).to α = d.to α :=
 is_of h1.symm (rows_of hd)

end Sx
end
section
open Go
namespace Sx
def zSec : Sec := ⟨0,0,0,0,0,0,0,0⟩
def volOf (n : Int) : Vol := ⟨List.replicate n.toNat zSec⟩
def imgOf (l : List Int) : List Vol := if sizesErr l ≠ 0 then [] else l.map volOf
def volSizes (l : List Vol) : List Int := l.map fun v=>(v.l.length : Int)
def fitsI (l : List Vol) (w : Wt) : Int := if sizesErr (volSizes l) ≠ 0 then sizesErr (volSizes l) else fitsErr (volSizes l) w
theorem sizesErr_ok {l : List Int} (h : sizesErr l = 0) : 1 ≤ l.length ∧ l.length ≤ 8 ∧ ∀ n,n ∈ l → 1 ≤ n ∧ n ≤ 4096 := by
 unfold sizesErr at h
 split at h
 ·cases h
 ·split at h
  ·cases h
  ·rename_i h1 h2
   refine ⟨by omega,by omega,fun n hn=>?_⟩
   simp only [Bool.not_eq_true,List.any_eq_false] at h2
   have := h2 n hn
   simp only [badSize,Bool.or_eq_false_iff,decide_eq_false_iff_not] at this
   omega
theorem volSizes_img {l : List Int} (h : sizesErr l = 0) : volSizes (imgOf l) = l := by
 unfold imgOf volSizes
 rw [if_neg (by simp [h]),List.map_map]
 conv=>rhs; rw [← List.map_id l]
 refine List.map_congr_left fun n hn=>?_
 have := (sizesErr_ok h).2.2 n hn
 simp [volOf]; omega
theorem fitsI_img {l : List Int} (h : sizesErr l = 0) (w : Wt) : fitsI (imgOf l) w = fitsErr l w := by
 unfold fitsI
 rw [volSizes_img h,if_neg (by simp [h])]

theorem fitsErr_wt (l : List Int) (v s : Int) (e : D) : fitsErr l (WtD.wt ⟨v,s,e⟩) = if v < 0 ∨ v ≥ l.length then 7 else if (e.to Sec).length = 0 then 1
  else if s < 0 ∨ s > l.getD v.toNat 0 - (e.to Sec).length then 2 else 0 := rfl
theorem vol_cell {d : D} (h : d.Is Vol) {i : Nat} (hi : i < (d.to Vol).length) : d.HasCell i 0 .slc ∧ (d.cell i 0).Is Sec ∧ (d.to Vol)[i] = ⟨(d.cell i 0).to Sec⟩ := by
 obtain ⟨r,h1,⟨x,rfl,hx⟩,h3⟩ := h.row hi
 have e : d.cellAt i 0 = some x := by simp [D.cellAt,h1]
 have e2 : d.cell i 0 = x := by simp [D.cell,e]
 rw [h3,e2]
 refine ⟨?_,hx,rfl⟩
 obtain ⟨a,b,c,rfl⟩ := hx.slc
 exact ⟨a,b,c,e⟩
theorem ev_cell {d : D} (h : d.Is Ev) {i : Nat} (hi : i < (d.to Ev).length) : d.HasCells i 0 [.int .i64,.int .i64] ∧ d.getInt i 0 = ((d.to Ev)[i]).kind ∧ d.getInt i 1 = ((d.to Ev)[i]).write := by
 obtain ⟨r,h1,⟨a,b,rfl⟩,h3⟩ := h.row hi
 rw [h3]
 simp [D.HasCells,D.HasCell,D.getInt,D.cellAt,h1,Codec.dec]
theorem wt_cell {d : D} (h : d.Is Wt) {i : Nat} (hi : i < (d.to Wt).length) : d.HasCells i 0 [.int .i64,.int .i64,.slc] ∧ (d.cell i 2).Is Sec ∧ (d.to Wt)[i] = ⟨d.getInt i 0,d.getInt i 1,(d.cell i 2).to Sec⟩ := by
 obtain ⟨r,h1,⟨a,b,x,rfl,hx⟩,h3⟩ := h.row hi
 have e2 : d.cell i 2 = x := by simp [D.cell,D.cellAt,h1]
 rw [h3,e2]
 obtain ⟨p,q,s,rfl⟩ := hx.slc
 refine ⟨?_,hx,?_⟩
 ·simp [D.HasCells,D.HasCell,D.cellAt,h1]
 ·simp [D.getInt,D.cellAt,h1,Codec.dec]
theorem sec_cell {d : D} (h : d.Is Sec) {i : Nat} (hi : i < (d.to Sec).length) : d.HasCells i 0 [.int .u8,.int .u8,.int .u8,.int .u8,.int .u8,.int .u8,.int .u8,.int .u8] ∧
  (d.to Sec)[i] = ⟨d.getInt i 0,d.getInt i 1,d.getInt i 2,d.getInt i 3,d.getInt i 4,d.getInt i 5,d.getInt i 6,d.getInt i 7⟩ := by
 obtain ⟨r,h1,⟨a,b,c,e,f,g,k,l,rfl⟩,h3⟩ := h.row hi
 rw [h3]
 simp [D.HasCells,D.HasCell,D.getInt,D.cellAt,h1,Codec.dec]
theorem zvol_is (h : Hd) (n : Int) : (D.slc h 8 (List.replicate n.toNat [D.int IntKind.u8 0,D.int IntKind.u8 0,D.int IntKind.u8 0,D.int IntKind.u8 0,D.int IntKind.u8 0,D.int IntKind.u8 0,D.int IntKind.u8 0,D.int IntKind.u8 0])).Is Sec ∧
  (D.slc h 8 (List.replicate n.toNat [D.int IntKind.u8 0,D.int IntKind.u8 0,D.int IntKind.u8 0,D.int IntKind.u8 0,D.int IntKind.u8 0,D.int IntKind.u8 0,D.int IntKind.u8 0,D.int IntKind.u8 0])).to Sec = List.replicate n.toNat zSec :=
 is_of rfl ⟨fun r hr=>by rw [List.eq_of_mem_replicate hr]; exact ⟨0,0,0,0,0,0,0,0,rfl⟩,by simp [List.map_replicate,Codec.dec,zSec]⟩
theorem vol_one {x : D} (hx : x.Is Sec) : SRows Vol [[x]] [⟨x.to Sec⟩] := rows_one ⟨x,rfl,hx⟩ rfl
theorem int_one (n : Int) : SRows Int [[.int .i64 n]] [n] := rows_one (ok_int n) rfl
theorem ev_one (k w : Int) : SRows Ev [[.int .i64 k,.int .i64 w]] [⟨k,w⟩] := rows_one ⟨k,w,rfl⟩ rfl
theorem wt_one (v s : Int) {x : D} (hx : x.Is Sec) : SRows Wt [[.int .i64 v,.int .i64 s,x]] [⟨v,s,x.to Sec⟩] := rows_one ⟨v,s,x,rfl,hx⟩ rfl
theorem map_take_snoc {α β : Type} (f : α → β) {l : List α} {j : Nat} (h : j < l.length) : (l.take (j + 1)).map f = (l.take j).map f ++ [f l[j]] := by
 rw [List.take_succ_eq_append_getElem h,List.map_append]; rfl

section
variable {P : Program} {w : World} {H : HV}
theorem ret_one {α : Type} [Codec α] {X : SV} {l l' : List α} (hx : Stands α X l) (h : l = l') : (Tree.ret X).holds P ⟨w,H⟩ (RetD w H fun ds=>.dat ((ds 0).like l')) := by
 subst h
 obtain ⟨d,h1,h2,h3,h4⟩ := hx
 refine ret_D (fun _=>d) (fun E E'=>?_) (fun H' ho=>?_)
 ·rw [h1]; simp only [SV.den,D.like_self h2 h3]
 ·simp only [SV.Ok,D.like_self h2 h3]; exact ⟨h4 _ ho,h2.slc⟩
theorem ret_oneI {α : Type} [Codec α] {X : SV} {l l' : List α} {k k' : Int} (hx : Stands α X l) (h : l = l') (hk : k = k') : (Tree.ret (.tup [X,.int .i64 k])).holds P ⟨w,H⟩ (RetD w H fun ds=>.tup [.dat ((ds 0).like l'),.int .i64 k']) := by
 subst h; subst hk
 obtain ⟨d,h1,h2,h3,h4⟩ := hx
 refine ret_D (fun _=>d) (fun E E'=>?_) (fun H' ho=>?_)
 ·simp only [SV.den,SV.denL,h1,D.like_self h2 h3]
 ·simp only [SV.Ok,SV.OkL,D.like_self h2 h3] at ho ⊢; exact ⟨⟨h4 _ ho.1,h2.slc⟩,trivial,trivial⟩
end

def spIdxBad (x : D × Unit) : SpecR := .scalar [x.1.Is Int ∧ x.1.len ≤ 1048576] (.int .i64 (idxP (x.1.to Int) badSize))
def spAnyBad (x : D × Unit) : SpecR := .scalar [x.1.Is Int ∧ x.1.len ≤ 1048576] (.bool ((x.1.to Int).any badSize))
def spSizes (x : D) : SpecR := .scalar [x.Is Int ∧ x.len ≤ 1048576] (.int .i64 (sizesErr (x.to Int)))
noncomputable def spMapN (x : D × Unit) : SpecR := .data [x.1.Is Int ∧ x.1.len ≤ 8 ∧ ∀ n,n ∈ x.1.to Int → 0 ≤ n ∧ n ≤ 4096] fun ds=>.dat ((ds 0).like ((x.1.to Int).map volOf))
noncomputable def spMapS (x : D × Unit) : SpecR := .data [x.1.Is Vol ∧ x.1.len ≤ 1048576] fun ds=>.dat ((ds 0).like (volSizes (x.1.to Vol)))
noncomputable def spNewI (x : D) : SpecR := .data [x.Is Int ∧ x.len ≤ 1048576] fun ds=>.tup [.dat ((ds 0).like (imgOf (x.to Int))),.int .i64 (sizesErr (x.to Int))]
noncomputable def spSzs (x : D) : SpecR := .data [x.Is Vol ∧ x.len ≤ 1048576] fun ds=>.dat ((ds 0).like (volSizes (x.to Vol)))
def spChkI (x : D) : SpecR := .scalar [x.Is Vol ∧ x.len ≤ 1048576] (.int .i64 (sizesErr (volSizes (x.to Vol))))
def ImgOk (d : D) : Prop := d.Is Vol ∧ d.len ≤ 1048576 ∧ ∀ v,v ∈ d.to Vol → v.l.length ≤ 1048576
def WtD.Ok (x : WtD) : Prop := x.d.Is Sec ∧ x.d.len ≤ 1048576
def spFits1 (x : D × WtD) : SpecR := .scalar [ImgOk x.1 ∧ x.2.Ok] (.int .i64 (fitsErr (volSizes (x.1.to Vol)) x.2.wt))
def spFitsI (x : D × WtD) : SpecR := .scalar [ImgOk x.1 ∧ x.2.Ok] (.int .i64 (fitsI (x.1.to Vol) x.2.wt))
def spFitsR (x : D × WtD) : SpecR := .scalar [x.1.Is Int ∧ x.1.len ≤ 1048576 ∧ (∀ n,n ∈ x.1.to Int → 1 ≤ n ∧ n ≤ 4096) ∧ x.2.Ok] (.int .i64 (fitsErr (x.1.to Int) x.2.wt))
end Sx
end
section
open Go
namespace Sx
theorem atEv_hit {l : List Ev} {e : Ev} {j : Nat} (hj : j < l.length) (h : atEv (l.take j) e = -1) (he : l[j] = e) : atEv l e = j := by
 conv=>lhs; rw [← List.take_append_drop j l,List.drop_eq_getElem_cons hj]
 rw [atEv_append,h,if_pos (by decide),atEv_cons,if_pos he,if_neg (by decide),List.length_take]
 omega
theorem atEv_miss {l : List Ev} {e : Ev} {j : Nat} (hj : j < l.length) (h : atEv (l.take j) e = -1) (he : l[j] ≠ e) : atEv (l.take (j + 1)) e = -1 := by
 rw [atEv_take hj,h,if_pos (by decide),if_neg he]
structure EvD where
 k : Int
 w : Int
def EvD.ev (x : EvD) : Ev := ⟨x.k,x.w⟩
def rdEv : Rd1 EvD where
 read x := match x with
  | .agg [.int .i64 k,.int .i64 w]=>some ⟨k,w⟩
  | _=>none
 canon h := .agg [.int .i64 h.k,.int .i64 h.w]
 right H E x b h hok := by
  split at h
  ·cases h; exact ⟨rfl,trivial,trivial,trivial⟩
  ·cases h
def spAt (x : D × EvD) : SpecR := .scalar [x.1.Is Ev ∧ x.1.len ≤ 1048576] (.int .i64 (atEv (x.1.to Ev) x.2.ev))
def spIssE (n : Int) : SpecR := .data [] fun _=>.agg [.int .i64 0,.int .i64 n]
def spAckE (n : Int) : SpecR := .data [] fun _=>.agg [.int .i64 1,.int .i64 n]
def spInts (x : D × D) : SpecR := .scalar [x.1.Is Int ∧ x.2.Is Int ∧ x.1.len ≤ 1048576] (.bool (decide (x.1.to Int = x.2.to Int)))
def spEvs (x : D × D) : SpecR := .scalar [x.1.Is Ev ∧ x.2.Is Ev ∧ x.1.len ≤ 1048576] (.bool (decide (x.1.to Ev = x.2.to Ev)))
def spSecs (x : D × D) : SpecR := .scalar [x.1.Is Sec ∧ x.2.Is Sec ∧ x.1.len ≤ 1048576] (.bool (decide (x.1.to Sec = x.2.to Sec)))
def spWts (x : D × D) : SpecR := .scalar [x.1.Is Wt ∧ x.2.Is Wt ∧ x.1.len ≤ 1048576 ∧ ∀ w,w ∈ x.1.to Wt → w.data.length ≤ 1048576] (.bool (decide (x.1.to Wt = x.2.to Wt)))
def spHas (x : D × Int) : SpecR := .scalar [x.1.Is Int ∧ x.1.len ≤ 1048576] (.bool ((x.1.to Int).contains x.2))
def setUp (l : List Int) (n : Int) : Nat → Bool
 | 0=>true
 | i + 1=>setUp l n i && (decide (0 ≤ l.getD i 0) && (decide (l.getD i 0 < n) && (decide (i = 0) || decide (l.getD (i - 1) 0 < l.getD i 0))))
def setH (l : List Int) (n : Int) : Bool := setUp l n l.length
theorem setUp_mono {l : List Int} {n : Int} {i : Nat} : ∀ {k : Nat},setUp l n (i + k) = true → setUp l n i = true
 | 0,h=>h
 | k + 1,h=>by
  have : setUp l n (i + k + 1) = true := h
  simp only [setUp,Bool.and_eq_true] at this
  exact setUp_mono this.1
theorem setH_false {l : List Int} {n : Int} {i : Nat} (hi : i < l.length) (h : (decide (0 ≤ l.getD i 0) && (decide (l.getD i 0 < n) && (decide (i = 0) || decide (l.getD (i - 1) 0 < l.getD i 0)))) = false) : setH l n = false := by
 cases hs : setH l n with
 | false=>rfl
 | true =>
  obtain ⟨k,hk⟩ := Nat.exists_eq_add_of_le (show i + 1 ≤ l.length by omega)
  unfold setH at hs
  rw [hk] at hs
  have := setUp_mono hs
  simp only [setUp,h,Bool.and_false] at this
  cases this
def spSet (x : D × Int) : SpecR := .scalar [x.1.Is Int ∧ x.1.len ≤ 1048576] (.bool (setH (x.1.to Int) x.2))
def spIsSet (x : CkD × D) : SpecR := .scalar [x.2.Is Int ∧ x.2.len ≤ 1048576 ∧ x.1.w.Is Wt] (.bool (setH (x.2.to Int) (x.1.w.to Wt).length))
def fewH (h : Hist) : Bool := decide (h.sizes.length ≤ 9) && (decide (h.writes.length ≤ 40) && (decide (h.events.length ≤ 90) && (h.sizes.all (fun n=>decide (n ≤ 24)) && h.writes.all fun w=>decide (w.data.length ≤ 30))))
def spFew (x : HiD) : SpecR := .scalar [x.s.Is Int ∧ x.w.Is Wt ∧ x.e.Is Ev] (.bool (fewH x.hist))
theorem same_not {α : Type} {a b : List α} (h : a ≠ b) [DecidableEq α] : false = decide (a = b) := by rw [decide_eq_false h]
theorem list_eq_of {α : Type} {a b : List α} {n : Nat} (h1 : a.length = b.length) (h2 : n = a.length) (h : a.take n = b.take n) : a = b := by
 subst h2; rwa [List.take_length,h1,List.take_length] at h
theorem take_succ_eq {α : Type} {a b : List α} {j : Nat} (h1 : j < a.length) (h2 : j < b.length) (h : a.take j = b.take j) (he : a[j] = b[j]) : a.take (j + 1) = b.take (j + 1) := by
 rw [List.take_succ_eq_append_getElem h1,List.take_succ_eq_append_getElem h2,h,he]
end Sx
end
section
open Go
namespace Sx
theorem runEv_step {n : Nat} {l : List Ev} {i : Nat} (hi : i < l.length) (h0 : (runEv n l i).1 = 0) : runEv n l (i + 1) = evStep n i (runEv n l i).2 l[i] := by
 have hl : l[i]? = some l[i] := List.getElem?_eq_getElem hi
 simp only [runEv,hl]
 rw [if_neg (by simp [h0])]
theorem runEv_stop {n : Nat} {l : List Ev} {i : Nat} (h : (runEv n l i).1 ≠ 0) : ∀ k,runEv n l (i + k) = runEv n l i
 | 0=>rfl
 | k + 1=>by
  have ih := runEv_stop h k
  show runEv n l ((i + k) + 1) = _
  simp only [runEv]
  rw [ih,if_pos h]
theorem checkH_sz {h : Hist} (h1 : sizesErr h.sizes ≠ 0) : checkH h = (sizesErr h.sizes,zTl) := by unfold checkH; rw [if_pos h1]
theorem checkH_many {h : Hist} (h1 : sizesErr h.sizes = 0) (h2 : h.writes.length > 4096) : checkH h = (6,zTl) := by unfold checkH; rw [if_neg (by simp [h1]),if_pos h2]
theorem checkH_fit {h : Hist} (h1 : sizesErr h.sizes = 0) (h2 : ¬h.writes.length > 4096) (h3 : firstErr h.sizes h.writes ≠ 0) : checkH h = (firstErr h.sizes h.writes,zTl) := by
 unfold checkH; rw [if_neg (by simp [h1]),if_neg h2,if_pos h3]
theorem checkH_ev {h : Hist} (h1 : sizesErr h.sizes = 0) (h2 : ¬h.writes.length > 4096) (h3 : firstErr h.sizes h.writes = 0) : checkH h =
  if (runEv h.writes.length h.events h.events.length).1 ≠ 0 then ((runEv h.writes.length h.events h.events.length).1,zTl)
  else if (runEv h.writes.length h.events h.events.length).2.issued.length < h.writes.length then (3,zTl)
  else (0,(runEv h.writes.length h.events h.events.length).2) := by
 unfold checkH; rw [if_neg (by simp [h1]),if_neg h2,if_neg (by simp [h3])]
theorem checkH_evErr {h : Hist} (h1 : sizesErr h.sizes = 0) (h2 : ¬h.writes.length > 4096) (h3 : firstErr h.sizes h.writes = 0) {i : Nat} (hi : i < h.events.length) (h0 : (runEv h.writes.length h.events i).1 = 0) {k : Int}
  (hk : (evStep h.writes.length i (runEv h.writes.length h.events i).2 h.events[i]).1 = k) (hk0 : k ≠ 0) : checkH h = (k,zTl) := by
 have hs := runEv_step (n := h.writes.length) hi h0
 have hne : (runEv h.writes.length h.events (i + 1)).1 ≠ 0 := by rw [hs,hk]; exact hk0
 obtain ⟨d,hd⟩ := Nat.exists_eq_add_of_le (show i + 1 ≤ h.events.length by omega)
 have hst := runEv_stop hne d
 rw [← hd] at hst
 rw [checkH_ev h1 h2 h3,hst,if_pos hne,hs,hk]
def onOk (e : Int) (d : D) : D := if e = 0 then d else .slc none 0 []
theorem onOk_ok (d : D) : onOk 0 d = d := if_pos rfl
theorem onOk_bad {e : Int} (h : e ≠ 0) (d : D) : onOk e d = .slc none 0 [] := if_neg h
noncomputable def ckSV (x : HiD) (ds : Nat → D) : SV := .tup [.agg [.dat (onOk (checkH x.hist).1 x.s),.dat (onOk (checkH x.hist).1 x.w),.dat (onOk (checkH x.hist).1 x.e),.dat ((ds 0).like (checkH x.hist).2.issued),.dat ((ds 1).like (checkH x.hist).2.acked)],.int .i64 (checkH x.hist).1]
noncomputable def spCk (x : HiD) : SpecR := .data [x.Right] (ckSV x)
def spCkI (x : HiD) : SpecR := .scalar [x.Right] (.int .i64 (checkH x.hist).1)

section
variable {P : Program} {w : World} {H : HV}
theorem ret_ck0 {x : HiD} {e : Int} (h : checkH x.hist = (e,zTl)) (he : e ≠ 0) : (Tree.ret (.tup [.agg [.nils,.nils,.nils,.nils,.nils],.int .i64 e])).holds P ⟨w,H⟩ (RetD w H (ckSV x)) := by
 have hn : (D.slc none 0 []).Is Int := is_nil _ _
 have e1 : (D.slc none 0 []).like (zTl.issued) = D.slc none 0 [] := D.like_self hn rfl
 have e2 : (D.slc none 0 []).like (zTl.acked) = D.slc none 0 [] := D.like_self hn rfl
 have hz : ∀ H',(D.slc none 0 []).Ok H' ∧ (D.slc none 0 []).IsSlc := fun H'=>⟨.nil 0,_,_,_,rfl⟩
 refine ret_D (fun _=>.slc none 0 []) (fun E E'=>?_) (fun H' ho=>?_)
 ·simp only [ckSV,h,onOk_bad he,e1,e2]; simp [SV.den,SV.denL,D.val,hval]
 ·simp only [ckSV,h,onOk_bad he,e1,e2,SV.Ok,SV.OkL]; exact ⟨⟨hz H',hz H',hz H',hz H',hz H',trivial⟩,trivial,trivial⟩
theorem ret_ck1 {x : HiD} {t u : D} (ht : t.Is Int) (hu : u.Is Int) (h : checkH x.hist = (0,⟨t.to Int,u.to Int⟩)) : (Tree.ret (.tup [.agg [.dat x.s,.dat x.w,.dat x.e,.dat t,.dat u],.int .i64 0])).holds P ⟨w,H⟩ (RetD w H (ckSV x)) := by
 refine ret_D (fun i=>match i with | 0=>t | _=>u) (fun E E'=>?_) (fun H' ho=>?_)
 ·simp only [ckSV,h,onOk_ok,D.like_self ht rfl,D.like_self hu rfl]; simp [SV.den,SV.denL]
 ·simp only [ckSV,h,onOk_ok,D.like_self ht rfl,D.like_self hu rfl]; exact ho
end
end Sx
end
section
open Go
namespace Sx
noncomputable def hiSV (ds : Nat → D) (h : Hist) : SV := .agg [.dat ((ds 0).like h.sizes),.dat ((ds 1).like h.writes),.dat ((ds 2).like h.events)]
noncomputable def spCopy (x : HiD) : SpecR := .data [x.Right] fun ds=>hiSV ds x.hist
theorem slc_same {α : Type} [Codec α] {d : D} (h : d.Is α) (hd : Hd) {s : Nat} (hs : s = Codec.sz α) : (D.slc hd s d.rows).Is α ∧ (D.slc hd s d.rows).to α = d.to α := is_of hs (rows_of h)
section
variable {P : Program} {w : World} {H : HV}
theorem ret_hi {X Y Z : SV} {s : List Int} {ws : List Wt} {es : List Ev} {h : Hist} (hx : Stands Int X s) (hy : Stands Wt Y ws) (hz : Stands Ev Z es) (e : h = ⟨s,ws,es⟩) :
  (Tree.ret (.agg [X,Y,Z])).holds P ⟨w,H⟩ (RetD w H fun ds=>hiSV ds h) := by
 subst e
 obtain ⟨d,h1,h2,h3,h4⟩ := hx
 obtain ⟨d',h1',h2',h3',h4'⟩ := hy
 obtain ⟨d'',h1'',h2'',h3'',h4''⟩ := hz
 refine ret_D (fun i=>match i with | 0=>d | 1=>d' | _=>d'') (fun E E'=>?_) (fun H' ho=>?_)
 ·simp only [hiSV,SV.den,SV.denL,D.like_self h2 h3,D.like_self h2' h3',D.like_self h2'' h3'',h1,h1',h1'']
 ·simp only [hiSV,SV.Ok,SV.OkL,D.like_self h2 h3,D.like_self h2' h3',D.like_self h2'' h3''] at ho ⊢
  exact ⟨⟨h4 _ ho.1,h2.slc⟩,⟨h4' _ ho.2.1,h2'.slc⟩,⟨h4'' _ ho.2.2.1,h2''.slc⟩,trivial⟩
theorem ret_hiI {X Y Z : SV} {s : List Int} {ws : List Wt} {es : List Ev} {h : Hist} {k k' : Int} (hx : Stands Int X s) (hy : Stands Wt Y ws) (hz : Stands Ev Z es) (e : h = ⟨s,ws,es⟩) (hk : k = k') :
  (Tree.ret (.tup [.agg [X,Y,Z],.int .i64 k])).holds P ⟨w,H⟩ (RetD w H fun ds=>.tup [hiSV ds h,.int .i64 k']) := by
 subst e; subst hk
 obtain ⟨d,h1,h2,h3,h4⟩ := hx
 obtain ⟨d',h1',h2',h3',h4'⟩ := hy
 obtain ⟨d'',h1'',h2'',h3'',h4''⟩ := hz
 refine ret_D (fun i=>match i with | 0=>d | 1=>d' | _=>d'') (fun E E'=>?_) (fun H' ho=>?_)
 ·simp only [hiSV,SV.den,SV.denL,D.like_self h2 h3,D.like_self h2' h3',D.like_self h2'' h3'',h1,h1',h1'']
 ·simp only [hiSV,SV.Ok,SV.OkL,D.like_self h2 h3,D.like_self h2' h3',D.like_self h2'' h3''] at ho ⊢
  exact ⟨⟨⟨h4 _ ho.1.1,h2.slc⟩,⟨h4' _ ho.1.2.1,h2'.slc⟩,⟨h4'' _ ho.1.2.2.1,h2''.slc⟩,trivial⟩,trivial,trivial⟩
theorem ret_hiII {X Y Z : SV} {s : List Int} {ws : List Wt} {es : List Ev} {h : Hist} {k k' m m' : Int} (hx : Stands Int X s) (hy : Stands Wt Y ws) (hz : Stands Ev Z es) (e : h = ⟨s,ws,es⟩) (hk : k = k') (hm : m = m') :
  (Tree.ret (.tup [.agg [X,Y,Z],.int .i64 k,.int .i64 m])).holds P ⟨w,H⟩ (RetD w H fun ds=>.tup [hiSV ds h,.int .i64 k',.int .i64 m']) := by
 subst e; subst hk; subst hm
 obtain ⟨d,h1,h2,h3,h4⟩ := hx
 obtain ⟨d',h1',h2',h3',h4'⟩ := hy
 obtain ⟨d'',h1'',h2'',h3'',h4''⟩ := hz
 refine ret_D (fun i=>match i with | 0=>d | 1=>d' | _=>d'') (fun E E'=>?_) (fun H' ho=>?_)
 ·simp only [hiSV,SV.den,SV.denL,D.like_self h2 h3,D.like_self h2' h3',D.like_self h2'' h3'',h1,h1',h1'']
 ·simp only [hiSV,SV.Ok,SV.OkL,D.like_self h2 h3,D.like_self h2' h3',D.like_self h2'' h3''] at ho ⊢
  exact ⟨⟨⟨h4 _ ho.1.1,h2.slc⟩,⟨h4' _ ho.1.2.1,h2'.slc⟩,⟨h4'' _ ho.1.2.2.1,h2''.slc⟩,trivial⟩,trivial,trivial,trivial⟩
end
def zHist : Hist := ⟨[],[],[]⟩
def newH (s : List Int) : Hist × Int := if sizesErr s ≠ 0 then (zHist,sizesErr s) else (⟨s,[],[]⟩,0)
noncomputable def spNewH (x : D) : SpecR := .data [x.Is Int ∧ x.len ≤ 1048576] fun ds=>.tup [hiSV ds (newH (x.to Int)).1,.int .i64 (newH (x.to Int)).2]
def issueH (h : Hist) (w : Wt) : Hist × Int × Int :=
 if (checkH h).1 ≠ 0 then (zHist,0,(checkH h).1) else if h.writes.length ≥ 4096 then (zHist,0,6)
 else if fitsErr h.sizes w ≠ 0 then (zHist,0,fitsErr h.sizes w) else (⟨h.sizes,h.writes ++ [w],h.events ++ [⟨0,h.writes.length⟩]⟩,h.writes.length,0)
noncomputable def spIssueH (x : HiD × WtD) : SpecR := .data [x.1.Right ∧ x.1.e.len ≤ 1000000 ∧ x.2.Ok] fun ds=>.tup [hiSV ds (issueH x.1.hist x.2.wt).1,.int .i64 (issueH x.1.hist x.2.wt).2.1,.int .i64 (issueH x.1.hist x.2.wt).2.2]
def ackH (h : Hist) (n : Int) : Hist × Int :=
 if (checkH h).1 ≠ 0 then (zHist,(checkH h).1) else if n < 0 ∨ n ≥ h.writes.length then (zHist,7)
 else if atEv h.events ⟨1,n⟩ ≥ 0 then (zHist,8) else (⟨h.sizes,h.writes,h.events ++ [⟨1,n⟩]⟩,0)
noncomputable def spAckH (x : HiD × Int) : SpecR := .data [x.1.Right ∧ x.1.e.len ≤ 1000000] fun ds=>.tup [hiSV ds (ackH x.1.hist x.2).1,.int .i64 (ackH x.1.hist x.2).2]
theorem issueH_e1 {h : Hist} {x : Wt} (h1 : (checkH h).1 ≠ 0) : issueH h x = (zHist,0,(checkH h).1) := by unfold issueH; rw [if_pos h1]
theorem issueH_e2 {h : Hist} {x : Wt} (h1 : ¬((checkH h).1 ≠ 0)) (h2 : h.writes.length ≥ 4096) : issueH h x = (zHist,0,6) := by unfold issueH; rw [if_neg h1,if_pos h2]
theorem issueH_e3 {h : Hist} {x : Wt} (h1 : ¬((checkH h).1 ≠ 0)) (h2 : ¬h.writes.length ≥ 4096) (h3 : fitsErr h.sizes x ≠ 0) : issueH h x = (zHist,0,fitsErr h.sizes x) := by unfold issueH; rw [if_neg h1,if_neg h2,if_pos h3]
theorem issueH_ok {h : Hist} {x : Wt} (h1 : ¬((checkH h).1 ≠ 0)) (h2 : ¬h.writes.length ≥ 4096) (h3 : ¬(fitsErr h.sizes x ≠ 0)) : issueH h x = (Hist.mk h.sizes (h.writes ++ [x]) (h.events ++ [Ev.mk 0 h.writes.length]),(h.writes.length : Int),(0 : Int)) := by
 unfold issueH; rw [if_neg h1,if_neg h2,if_neg h3]
theorem ackH_e1 {h : Hist} {n : Int} (h1 : (checkH h).1 ≠ 0) : ackH h n = (zHist,(checkH h).1) := by unfold ackH; rw [if_pos h1]
theorem ackH_e7 {h : Hist} {n : Int} (h1 : ¬((checkH h).1 ≠ 0)) (h2 : n < 0 ∨ n ≥ h.writes.length) : ackH h n = (zHist,7) := by unfold ackH; rw [if_neg h1,if_pos h2]
theorem ackH_e8 {h : Hist} {n : Int} (h1 : ¬((checkH h).1 ≠ 0)) (h2 : ¬(n < 0 ∨ n ≥ h.writes.length)) (h3 : atEv h.events ⟨1,n⟩ ≥ 0) : ackH h n = (zHist,8) := by unfold ackH; rw [if_neg h1,if_neg h2,if_pos h3]
theorem ackH_ok {h : Hist} {n : Int} (h1 : ¬((checkH h).1 ≠ 0)) (h2 : ¬(n < 0 ∨ n ≥ h.writes.length)) (h3 : ¬(atEv h.events ⟨1,n⟩ ≥ 0)) : ackH h n = (Hist.mk h.sizes h.writes (h.events ++ [Ev.mk 1 n]),(0 : Int)) := by
 unfold ackH; rw [if_neg h1,if_neg h2,if_neg h3]
theorem img_ok {l : List Int} (h1 : sizesErr l = 0) (d : D) : ImgOk (d.like (imgOf l)) := by
 refine ⟨D.like_is _ _,?_,fun v hv=>?_⟩
 ·rw [D.Is.length (α := Vol),D.like_to]
  unfold imgOf
  rw [if_neg (by simp [h1])]
  have := sizesErr_ok h1
  simp only [List.length_map]; omega
 ·rw [D.like_to] at hv
  unfold imgOf at hv
  rw [if_neg (by simp [h1])] at hv
  obtain ⟨n,hn,rfl⟩ := List.mem_map.1 hv
  have := (sizesErr_ok h1).2.2 n hn
  simp only [volOf,List.length_replicate]; omega
theorem sub3_all {α : Type} [Codec α] {d : D} (h : d.Is α) : (d.sub3 0 (Int.toNat (d.len : Int))).Tight ∧ (d.sub3 0 (Int.toNat (d.len : Int))).Is α ∧ (d.sub3 0 (Int.toNat (d.len : Int))).to α = d.to α ∧ (d.sub3 0 (Int.toNat (d.len : Int))).len = d.len := by
 obtain ⟨h1,h2⟩ := h.sub3 0 (Int.toNat (d.len : Int))
 simp only [Int.toNat_natCast,List.drop_zero,Nat.sub_zero] at h1 h2 ⊢
 have h3 : (d.sub3 0 d.len).to α = d.to α := by rw [h2,D.Is.length (α := α),List.take_length]
 have h4 : (d.sub3 0 d.len).len = d.len := by rw [D.Is.length (α := α) (d.sub3 0 d.len),h3,D.Is.length (α := α) d]
 refine ⟨fun a c hc=>?_,h1,h3,h4⟩
 rw [h4]
 simp only [D.sub3,D.hd] at hc
 cases hd : d.hd with
 | none=>simp only [D.hd] at hd; simp [hd] at hc
 | some q=>simp only [D.hd] at hd; simp [hd] at hc; omega
def spSameH (x : HiD × HiD) : SpecR := .scalar [x.1.Right ∧ x.2.s.Is Int ∧ x.2.w.Is Wt ∧ x.2.e.Is Ev] (.bool (decide (x.1.hist = x.2.hist)))
end Sx
end
section
open Go
namespace Sx
structure TlD where
 i : D
 a : D
def TlD.tl (x : TlD) : Tl := ⟨x.i.to Int,x.a.to Int⟩
def rdTl : Rd1 TlD where
 read x := match x with
  | .agg [i,a]=>match rdD.read i,rdD.read a with
   | some i,some a=>some ⟨i,a⟩
   | _,_=>none
  | _=>none
 canon h := .agg [.dat h.i,.dat h.a]
 right H E x b h hok := by
  split at h
  ·split at h
   ·rename_i h1 h2
    cases h
    obtain ⟨a1,a2,_⟩ := hok
    obtain ⟨i1,i2⟩ := rdD.right H E _ _ h1 a1
    obtain ⟨j1,j2⟩ := rdD.right H E _ _ h2 a2
    refine ⟨?_,i2,j2,trivial⟩
    simp only [SV.den,SV.denL,i1,j1]
    rfl
   ·cases h
  ·cases h
def spBefT (x : TlD × Int × Int) : SpecR := .scalar [x.1.i.Is Int ∧ x.1.a.Is Int ∧ 0 ≤ x.2.1 ∧ x.2.1 < (x.1.a.to Int).length ∧ 0 ≤ x.2.2 ∧ x.2.2 < (x.1.i.to Int).length] (.bool (beforeT x.1.tl x.2.1 x.2.2))
end Sx
namespace Sx
noncomputable def wvH (hb : D) (z : Int) : SV := .agg [.int .i64 (hb.getInt (Int.toNat z) 0),.int .i64 (hb.getInt (Int.toNat z) 1),.dat (hb.cell (Int.toNat z) 2)]
theorem cell_okd {H : HV} {d : D} (hd : d.Ok H) {i j : Nat} : (d.cell i j).Ok H := by
 unfold D.cell D.cellAt
 cases hr : d.rows[i]? with
 | none=>exact .nil 0
 | some r =>
  cases hx : r[j]? with
  | none=>simp [hx]; exact .nil 0
  | some x =>
   simp only [Option.bind_some,hx,Option.getD_some]
   cases hd with
   | slc a c sz rows hsp hc hlen hcell hok=>exact hok r (List.mem_of_getElem? hr) x (List.mem_of_getElem? hx)
   | _=>simp [D.rows] at hr
theorem wvH_ok {H : HV} {hb : D} (hw : hb.Is Wt) (hok : hb.Ok H) {z : Int} (h0 : 0 ≤ z) (h1 : z < (hb.len : Int)) : (wvH hb z).Ok H := by
 have hi : Int.toNat z < (hb.to Wt).length := by rw [← D.Is.length (α := Wt)]; omega
 exact ⟨trivial,trivial,⟨cell_okd hok,(wt_cell hw hi).2.1.slc⟩,trivial⟩
end Sx
namespace Sx
def rowOk (t : Tl) (n : Nat) (set : List Int) (b : Int) : Bool := (List.range n).all fun (a : Nat)=>set.contains (a : Int) || !beforeT t a b
def closedT (t : Tl) (n : Nat) (set : List Int) : Bool := set.all fun b=>rowOk t n set b
def inL (n : Nat) (l : List Int) : List Bool := (List.range n).map fun (x : Nat)=>l.contains (x : Int)
theorem inL_nil (n : Nat) : inL n [] = List.replicate n false := by
 simp only [inL,List.contains_nil]
 rw [List.map_const',List.length_range]
theorem inL_len (n : Nat) (l : List Int) : (inL n l).length = n := by simp [inL]
theorem inL_snoc {n : Nat} {l : List Int} {z : Nat} : inL n (l ++ [(z : Int)]) = (inL n l).set z true := by
 apply List.ext_getElem (by simp [inL])
 intro k h1 h2
 simp only [inL,List.getElem_map,List.getElem_range,List.getElem_set]
 by_cases h : z = k
 ·subst h; simp
 ·rw [if_neg h]
  simp [List.contains_eq_any_beq,List.any_append]
  omega
theorem inL_get {n : Nat} {l : List Int} {k : Nat} (h : k < (inL n l).length) : (inL n l)[k] = l.contains (k : Int) := by simp [inL]
theorem setUp_le {l : List Int} {n : Int} : ∀ {i : Nat},setUp l n i = true → ∀ k,k < i → 0 ≤ l.getD k 0 ∧ l.getD k 0 < n
 | 0,_,k,hk=>by omega
 | i + 1,h,k,hk=>by
  simp only [setUp,Bool.and_eq_true,decide_eq_true_eq] at h
  by_cases e : k = i
  ·subst e; exact ⟨h.2.1,h.2.2.1⟩
  ·exact setUp_le h.1 k (by omega)
theorem setH_in {l : List Int} {n : Int} (h : setH l n = true) {k : Nat} (hk : k < l.length) : 0 ≤ l[k] ∧ l[k] < n := by
 have := setUp_le h k hk
 rwa [getD_lt hk] at this
def spIsCl (x : CkD × D) : SpecR := .scalar [x.1.w.Is Wt ∧ x.1.i.Is Int ∧ x.1.a.Is Int ∧ x.2.Is Int ∧ x.1.w.len ≤ 1048576 ∧ x.2.len ≤ 1048576 ∧ (x.1.i.to Int).length = (x.1.w.to Wt).length ∧ (x.1.a.to Int).length = (x.1.w.to Wt).length ∧ setH (x.2.to Int) (x.1.w.to Wt).length = true]
 (.bool (closedT ⟨x.1.i.to Int,x.1.a.to Int⟩ (x.1.w.to Wt).length (x.2.to Int)))
end Sx
namespace Sx
def spBefR (x : HiD × Int × Int) : SpecR := .scalar [x.1.e.Is Ev ∧ x.1.e.len ≤ 1048576] (.bool (beforeR (x.1.e.to Ev) x.2.1 x.2.2))
def rowOkR (l : List Ev) (n : Nat) (set : List Int) (b : Int) : Bool := (List.range n).all fun (a : Nat)=>!beforeR l a b || set.contains (a : Int)
def closedS (l : List Ev) (n : Nat) (set : List Int) : Bool := set.all fun b=>rowOkR l n set b
def spClR (x : HiD × D) : SpecR := .scalar [x.1.e.Is Ev ∧ x.1.e.len ≤ 1048576 ∧ x.1.w.Is Wt ∧ x.1.w.len ≤ 1048576 ∧ x.2.Is Int ∧ x.2.len ≤ 1048576] (.bool (closedS (x.1.e.to Ev) (x.1.w.to Wt).length (x.2.to Int)))
def closedB (h : Hist) (set : List Int) : Bool := decide ((checkH h).1 = 0) && (setH set h.writes.length && closedS h.events h.writes.length set)
def spCls (x : HiD × D) : SpecR := .scalar [x.1.Right ∧ x.2.Is Int ∧ x.2.len ≤ 1048576] (.bool (closedB x.1.hist (x.2.to Int)))
def firstN (n : Int) : List Int := (List.range n.toNat).map fun (a : Nat)=>(a : Int)
noncomputable def spFst (n : Int) : SpecR := .data [n ≤ 1000000] fun ds=>.dat ((ds 0).like (firstN n))
theorem closed_same {h : Hist} {set : List Int} (hc : (checkH h).1 = 0) (hs : setH set h.writes.length = true) : closedT (checkH h).2 h.writes.length set = closedS h.events h.writes.length set := by
 obtain ⟨htl,hlen,_⟩ := checkH_ok hc
 unfold closedT closedS
 rw [Bool.eq_iff_iff,List.all_eq_true,List.all_eq_true]
 have key : ∀ b,b ∈ set → rowOk (checkH h).2 h.writes.length set b = rowOkR h.events h.writes.length set b := fun b hb=>by
  obtain ⟨k,hk,rfl⟩ := List.getElem_of_mem hb
  have hz := setH_in hs hk
  unfold rowOk rowOkR
  rw [Bool.eq_iff_iff,List.all_eq_true,List.all_eq_true]
  have e : ∀ a,a ∈ List.range h.writes.length → beforeT (checkH h).2 (a : Int) set[k] = beforeR h.events a set[k] := fun a ha=>by
   have ha := List.mem_range.1 ha
   exact before_same htl ⟨by omega,by omega⟩ ⟨hz.1,by omega⟩
  constructor
  ·intro h1 a ha; rw [← e a ha,Bool.or_comm]; exact h1 a ha
  ·intro h1 a ha; rw [e a ha,Bool.or_comm]; exact h1 a ha
 constructor
 ·intro h1 b hb; rw [← key b hb]; exact h1 b hb
 ·intro h1 b hb; rw [key b hb]; exact h1 b hb
end Sx
end
section
open Go
namespace Sx
def idxG {α : Type} (l : List α) (p : α → Bool) : Int := match l.findIdx? p with
 | some i=>i
 | none=>-1
theorem idxG_any {α : Type} (xs : List α) (p : α → Bool) : decide (idxG xs p ≥ 0) = xs.any p := by
 unfold idxG
 cases h : xs.findIdx? p with
 | none =>
  rw [List.findIdx?_eq_none_iff] at h
  rw [show xs.any p = false from by rw [List.any_eq_false]; exact fun x hx=>by simp [h x hx]]
  rfl
 | some i =>
  rw [List.findIdx?_eq_some_iff_getElem] at h
  obtain ⟨h1,h2,_⟩ := h
  rw [show xs.any p = true from List.any_eq_true.2 ⟨_,List.getElem_mem h1,h2⟩]
  simp only [decide_eq_true_eq]
  omega
theorem idxG_hit {α : Type} {l : List α} {p : α → Bool} {j : Nat} (hj : j < l.length) (hpre : (l.take j).findIdx? p = none) (hb : p l[j] = true) : idxG l p = j := by
 have : l.findIdx? p = some j := by
  rw [List.findIdx?_eq_some_iff_getElem]
  refine ⟨hj,hb,fun i hi=>?_⟩
  rw [List.findIdx?_eq_none_iff] at hpre
  have := hpre l[i] (List.mem_take_iff_getElem.2 ⟨i,by omega,rfl⟩)
  simp [this]
 unfold idxG; rw [this]
theorem idxG_miss {α : Type} {l : List α} {p : α → Bool} {j : Nat} (hj : j < l.length) (hpre : (l.take j).findIdx? p = none) (hb : p l[j] = false) : (l.take (j + 1)).findIdx? p = none := by
 rw [List.take_succ_eq_append_getElem hj,List.findIdx?_append,hpre]
 simp [hb]
theorem idxG_none {α : Type} {l : List α} {p : α → Bool} (hpre : (l.take l.length).findIdx? p = none) : idxG l p = -1 := by
 rw [List.take_length] at hpre
 unfold idxG; rw [hpre]
def asc (l : List Int) : Bool := (List.range (l.length - 1)).all fun i=>decide (l.getD i 0 < l.getD (i + 1) 0)
theorem asc_iff (l : List Int) : asc l = true ↔ ∀ i,i + 1 < l.length → l.getD i 0 < l.getD (i + 1) 0 := by
 unfold asc
 rw [List.all_eq_true]
 constructor
 ·intro h i hi
  exact of_decide_eq_true (h i (List.mem_range.2 (by omega)))
 ·intro h i hi
  exact decide_eq_true (h i (by have := List.mem_range.1 hi; omega))
theorem asc_not {l : List Int} {i : Nat} (hi : i + 1 < l.length) (h : ¬l.getD i 0 < l.getD (i + 1) 0) : asc l = false := by
 cases ha : asc l with
 | false=>rfl
 | true=>exact absurd ((asc_iff l).1 ha i hi) h

def spAsc (d : D) : SpecR := .scalar [d.Is Int ∧ d.len ≤ 1048576] (.bool (asc (d.to Int)))
def spIxI (x : D × Int) : SpecR := .scalar [x.1.Is Int ∧ x.1.len ≤ 1048576] (.int .i64 (idxG (x.1.to Int) fun y=>decide (x.2 = y)))
def spIxB (x : D × Bool) : SpecR := .scalar [x.1.Is Bool ∧ x.1.len ≤ 1048576] (.int .i64 (idxG (x.1.to Bool) fun y=>decide (x.2 = y)))
def spHasB (x : D × Bool) : SpecR := .scalar [x.1.Is Bool ∧ x.1.len ≤ 1048576] (.bool ((x.1.to Bool).any fun y=>decide (x.2 = y)))
end Sx
end
section
open Go
namespace Sx
theorem setUp_lt {l : List Int} {n : Int} {m : Nat} (h : setUp l n m = true) : ∀ {i k : Nat},i < k → k < m → l.getD i 0 < l.getD k 0 := by
 intro i k hik hk
 obtain ⟨d,rfl⟩ := Nat.exists_eq_add_of_lt hik
 clear hik
 have step : ∀ q,0 < q → q < m → l.getD (q - 1) 0 < l.getD q 0 := fun q h0 hq=>by
  obtain ⟨e,rfl⟩ := Nat.exists_eq_add_of_le (show q + 1 ≤ m by omega)
  have := setUp_mono h
  simp only [setUp,Bool.and_eq_true,Bool.or_eq_true,decide_eq_true_eq] at this
  have := this.2.2.2
  omega
 induction d with
 | zero=>have := step (i + 1) (by omega) (by omega); simpa using this
 | succ d ih =>
  have h1 := ih (by omega)
  have h2 := step (i + (d + 1) + 1) (by omega) hk
  have e : i + (d + 1) + 1 - 1 = i + d + 1 := by omega
  rw [e] at h2
  omega
theorem setH_inj {l : List Int} {n : Int} (h : setH l n = true) {i k : Nat} (hi : i < l.length) (hk : k < l.length) (e : l.getD i 0 = l.getD k 0) : i = k := by
 rcases Nat.lt_trichotomy i k with h1 | h1 | h1
 ·have := setUp_lt h h1 hk; omega
 ·exact h1
 ·have := setUp_lt h h1 hi; omega

theorem range_one (i : Nat) : ∀ n,(List.range n).filter (fun k=>decide (k = i)) = if i < n then [i] else []
 | 0=>by simp
 | n + 1=>by
  rw [List.range_succ,List.filter_append,range_one i n]
  by_cases h1 : i < n
  ·rw [if_pos h1,if_pos (by omega)]
   simp; omega
  ·rw [if_neg h1]
   by_cases h2 : n = i
   ·subst h2; simp
   ·rw [if_neg (by omega)]; simp [h2]
def evR (set : List Int) (x : Ev) : List Ev := ((List.range set.length).filter fun k=>decide (set.getD k 0 = x.write)).map fun (k : Nat)=>(⟨x.kind,k⟩ : Ev)
theorem evR_idx {set : List Int} {n : Int} (h : setH set n = true) (x : Ev) : evR set x = if idxG set (fun y=>decide (x.write = y)) ≥ 0 then [⟨x.kind,idxG set (fun y=>decide (x.write = y))⟩] else [] := by
 unfold evR idxG
 cases hf : set.findIdx? (fun y=>decide (x.write = y)) with
 | none =>
  rw [List.findIdx?_eq_none_iff] at hf
  have : (List.range set.length).filter (fun k=>decide (set.getD k 0 = x.write)) = [] := by
   rw [List.filter_eq_nil_iff]
   intro k hk
   have hk := List.mem_range.1 hk
   have := hf _ (List.getElem_mem hk)
   rw [getD_lt hk]
   simp only [decide_eq_false_iff_not] at this
   simp only [decide_eq_true_eq]
   exact fun e=>this e.symm
  rw [this]; rfl
 | some i =>
  rw [List.findIdx?_eq_some_iff_getElem] at hf
  obtain ⟨hi,h1,_⟩ := hf
  simp only [decide_eq_true_eq] at h1
  have : (List.range set.length).filter (fun k=>decide (set.getD k 0 = x.write)) = [i] := by
   have e : (List.range set.length).filter (fun k=>decide (set.getD k 0 = x.write)) = (List.range set.length).filter (fun k=>decide (k = i)) := by
    apply List.filter_congr
    intro k hk
    have hk := List.mem_range.1 hk
    rw [decide_eq_decide]
    constructor
    ·intro e; exact setH_inj h hk hi (by rw [e,getD_lt hi,h1])
    ·intro e; subst e; rw [getD_lt hk,h1]
   rw [e,range_one,if_pos hi]
  rw [this]
  simp only
  rw [if_pos (by omega)]
  rfl
def restE (set : List Int) (l : List Ev) : List Ev := l.flatMap (evR set)
theorem restE_snoc {set : List Int} {l : List Ev} {j : Nat} (hj : j < l.length) : restE set (l.take (j + 1)) = restE set (l.take j) ++ evR set l[j] := by
 unfold restE
 rw [List.take_succ_eq_append_getElem hj,List.flatMap_append]
 simp
theorem evR_len {set : List Int} {n : Int} (h : setH set n = true) (x : Ev) : (evR set x).length ≤ 1 := by
 rw [evR_idx h]; split <;> simp
theorem restE_len {set : List Int} {n : Int} (h : setH set n = true) : ∀ l : List Ev,(restE set l).length ≤ l.length
 | []=>by simp [restE]
 | x :: r=>by
  have h1 := evR_len h x
  have h2 := restE_len h r
  simp only [restE,List.flatMap_cons,List.length_append,List.length_cons] at h2 ⊢
  omega
def zWt : Wt := ⟨0,0,[]⟩
def pickW (ws : List Wt) (set : List Int) : List Wt := set.map fun n=>ws.getD n.toNat zWt
def restrictH (h : Hist) (set : List Int) : Hist × Int :=
 if (checkH h).1 ≠ 0 then (zHist,(checkH h).1)
 else if setH set h.writes.length = false then (zHist,2)
 else if closedS h.events h.writes.length set = false then (zHist,27)
 else (⟨h.sizes,pickW h.writes set,restE set h.events⟩,0)
theorem rest_e1 {h : Hist} {set : List Int} (h1 : (checkH h).1 ≠ 0) : restrictH h set = (zHist,(checkH h).1) := by unfold restrictH; rw [if_pos h1]
theorem rest_e2 {h : Hist} {set : List Int} (h1 : (checkH h).1 = 0) (h2 : setH set h.writes.length = false) : restrictH h set = (zHist,2) := by unfold restrictH; rw [if_neg (by simp [h1]),if_pos h2]
theorem rest_e27 {h : Hist} {set : List Int} (h1 : (checkH h).1 = 0) (h2 : setH set h.writes.length = true) (h3 : closedS h.events h.writes.length set = false) : restrictH h set = (zHist,27) := by
 unfold restrictH; rw [if_neg (by simp [h1]),if_neg (by simp [h2]),if_pos h3]
theorem rest_ok {h : Hist} {set : List Int} (h1 : (checkH h).1 = 0) (h2 : setH set h.writes.length = true) (h3 : closedS h.events h.writes.length set = true) : restrictH h set = (⟨h.sizes,pickW h.writes set,restE set h.events⟩,0) := by
 unfold restrictH; rw [if_neg (by simp [h1]),if_neg (by simp [h2]),if_neg (by simp [h3])]
noncomputable def spRest (x : HiD × D) : SpecR := .data [x.1.Right ∧ x.2.Is Int ∧ x.2.len ≤ 1048576] fun ds=>.tup [hiSV ds (restrictH x.1.hist (x.2.to Int)).1,.int .i64 (restrictH x.1.hist (x.2.to Int)).2]
theorem pickW_snoc {ws : List Wt} {set : List Int} {j : Nat} (hj : j < set.length) : pickW ws (set.take (j + 1)) = pickW ws (set.take j) ++ [ws.getD (set[j]).toNat zWt] := by
 unfold pickW; rw [List.take_succ_eq_append_getElem hj,List.map_append]; rfl
theorem pickW_len (ws : List Wt) (set : List Int) : (pickW ws set).length = set.length := by simp [pickW]
end Sx
end
section
open Go
namespace Sx
theorem law_tab2 {P : Program} {f : FuncId} {β : Type} {r : Rd β} {sp : β → SpecR} {γ : Type} [DecidableEq γ] (h : Law P f (r.sp sp)) (c : β → Bool) (v : β → γ) (tab : List γ) (k : β → γ → SpecR)
  (hh : ∀ b,c b = true → match k b (v b) with
   | .no=>True
   | .data ps' g'=>∃ ps g,sp b = .data ps g ∧ ((∀ p,p ∈ ps' → p) → ∀ p,p ∈ ps → p) ∧ ∀ ds,∃ ds',g' ds' = g ds
   | .scalar ps' v'=>∃ ps v,sp b = .scalar ps v ∧ ((∀ p,p ∈ ps' → p) → ∀ p,p ∈ ps → p) ∧ v' = v) :
  Law P f (r.sp fun b=>iff (c b) (tabD (v b) tab (k b))) :=
 law_alt h fun b=>by
  unfold iff
  cases hc : c b with
  | false=>trivial
  | true =>
   simp only
   rcases tabD_or (v b) (k b) tab with h1 | h1
   ·rw [h1]; trivial
   ·rw [h1]; exact hh b hc
def evRows : List (List D) → Bool
 | []=>true
 | r :: rs=>match r with
  | [.int .i64 _,.int .i64 _]=>evRows rs
  | _=>false
def D.allEv (d : D) : Bool :=
 match d with
 | .slc _ s rows=>(match rows with | []=>true | _ :: _=>s == 2) && evRows rows
 | _=>false
def secRows : List (List D) → Bool
 | []=>true
 | r :: rs=>match r with
  | [.int .u8 _,.int .u8 _,.int .u8 _,.int .u8 _,.int .u8 _,.int .u8 _,.int .u8 _,.int .u8 _]=>secRows rs
  | _=>false
def D.allSec (d : D) : Bool :=
 match d with
 | .slc _ s rows=>(match rows with | []=>true | _ :: _=>s == 8) && secRows rows
 | _=>false
def wtRows : List (List D) → Bool
 | []=>true
 | r :: rs=>match r with
  | [.int .i64 _,.int .i64 _,d]=>d.allSec && wtRows rs
  | _=>false
def D.allWt (d : D) : Bool :=
 match d with
 | .slc _ s rows=>(match rows with | []=>true | _ :: _=>s == 3) && wtRows rows
 | _=>false
theorem evRows_ok : ∀ (rows : List (List D)),evRows rows = true → ∀ r,r ∈ rows → Codec.ok Ev r
 | [],_,r,h=>by cases h
 | x :: rs,h,r,hr=>by
  unfold evRows at h
  split at h
  ·rcases List.mem_cons.1 hr with rfl | hr
   ·exact ⟨_,_,rfl⟩
   ·exact evRows_ok rs h r hr
  ·cases h
theorem secRows_ok : ∀ (rows : List (List D)),secRows rows = true → ∀ r,r ∈ rows → Codec.ok Sec r
 | [],_,r,h=>by cases h
 | x :: rs,h,r,hr=>by
  unfold secRows at h
  split at h
  ·rcases List.mem_cons.1 hr with rfl | hr
   ·exact ⟨_,_,_,_,_,_,_,_,rfl⟩
   ·exact secRows_ok rs h r hr
  ·cases h
theorem allSec_is {d : D} (h : d.allSec = true) : d.Is Sec := by
 unfold D.allSec at h
 split at h
 ·rename_i a s rows
  simp only [Bool.and_eq_true] at h
  refine ⟨_,_,_,rfl,?_,secRows_ok _ h.2⟩
  cases rows with
  | nil=>exact .inl rfl
  | cons x r=>right; exact eq_of_beq h.1
 ·cases h
theorem wtRows_ok : ∀ (rows : List (List D)),wtRows rows = true → ∀ r,r ∈ rows → Codec.ok Wt r
 | [],_,r,h=>by cases h
 | x :: rs,h,r,hr=>by
  unfold wtRows at h
  split at h
  ·simp only [Bool.and_eq_true] at h
   rcases List.mem_cons.1 hr with rfl | hr
   ·exact ⟨_,_,_,rfl,allSec_is h.1⟩
   ·exact wtRows_ok rs h.2 r hr
  ·cases h
theorem allEv_is {d : D} (h : d.allEv = true) : d.Is Ev := by
 unfold D.allEv at h
 split at h
 ·rename_i a s rows
  simp only [Bool.and_eq_true] at h
  refine ⟨_,_,_,rfl,?_,evRows_ok _ h.2⟩
  cases rows with
  | nil=>exact .inl rfl
  | cons x r=>right; exact eq_of_beq h.1
 ·cases h
theorem allWt_is {d : D} (h : d.allWt = true) : d.Is Wt := by
 unfold D.allWt at h
 split at h
 ·rename_i a s rows
  simp only [Bool.and_eq_true] at h
  refine ⟨_,_,_,rfl,?_,wtRows_ok _ h.2⟩
  cases rows with
  | nil=>exact .inl rfl
  | cons x r=>right; exact eq_of_beq h.1
 ·cases h
def hiL (x : HiD) : Bool := x.s.allInt && (x.w.allWt && (x.e.allEv && (decide (x.s.len ≤ 1048576) && (decide (x.w.len ≤ 1048576) && (decide (x.e.len ≤ 1048576) && (x.w.to Wt).all fun w=>decide (w.data.length ≤ 1048576))))))
theorem hiL_is {x : HiD} (h : hiL x = true) : x.Right := by
 simp only [hiL,Bool.and_eq_true,decide_eq_true_eq,List.all_eq_true] at h
 exact ⟨allInt_is h.1,allWt_is h.2.1,allEv_is h.2.2.1,h.2.2.2.1,h.2.2.2.2.1,h.2.2.2.2.2.1,h.2.2.2.2.2.2⟩
def setL (x : D) : Bool := x.allInt && decide (x.len ≤ 1048576)
theorem setL_is {x : D} (h : setL x = true) : x.Is Int ∧ x.len ≤ 1048576 := by
 simp only [setL,Bool.and_eq_true,decide_eq_true_eq] at h
 exact ⟨allInt_is h.1,h.2⟩
def spIntsS (x : D × D) : SpecR := .scalar [x.1.Is Int ∧ x.2.Is Int ∧ x.1.len ≤ 1048576 ∧ x.1.to Int = x.2.to Int] (.lb true)
def spHasC (x : D × Int) : SpecR := .scalar [x.1.Is Int ∧ x.1.len ≤ 1048576] (.bool ((x.1.to Int).contains x.2))
end Sx
end
section
open Go
namespace Sx
instance : Plain Sec where
 cells _ _ s := [.int .u8 s.b0,.int .u8 s.b1,.int .u8 s.b2,.int .u8 s.b3,.int .u8 s.b4,.int .u8 s.b5,.int .u8 s.b6,.int .u8 s.b7]
 right d i r _ h := by obtain ⟨_,_,_,_,_,_,_,_,rfl⟩ := h; rfl
instance : Plain Ev where
 cells _ _ e := [.int .i64 e.kind,.int .i64 e.write]
 right d i r _ h := by obtain ⟨_,_,rfl⟩ := h; rfl
instance : Plain Wt where
 cells d i w := [.int .i64 w.vol,.int .i64 w.start,(d.cell i 2).plain w.data]
 right d i r h ho := by
  obtain ⟨a,b,v,rfl,hv⟩ := ho
  obtain ⟨p1,p2,p3,rfl⟩ := hv.slc
  have e1 : d.cell i 2 = .slc p1 p2 p3 := by simp [D.cell,D.cellAt,h]
  simp only [Codec.dec,e1,plain_self hv]
def pI (d : D) (l : List Int) : D := d.plain l
noncomputable def pW (d : D) (l : List Wt) : D := d.plain l
def pE (d : D) (l : List Ev) : D := d.plain l
def oneS : Sec := ⟨1,0,0,0,0,0,0,0⟩
end Sx
end
section
open Go
namespace Sx
def rdPair : Rd1 (Int × Int) where
 read x := match x with | .agg [.int .i64 a,.int .i64 b]=>some (a,b) | _=>none
 canon n := .agg [.int .i64 n.1,.int .i64 n.2]
 right H E x b h hok := by
  split at h
  ·cases h; exact ⟨rfl,trivial,trivial,trivial⟩
  ·cases h
def HistOk (h : Hist) : Prop := h.sizes.length ≤ 1048576 ∧ h.writes.length ≤ 1048576 ∧ h.events.length ≤ 1048576 ∧ ∀ w,w ∈ h.writes → w.data.length ≤ 1048576
theorem llen {α : Type} [Codec α] (d : D) (l : List α) : (d.like l).len = l.length := by rw [D.Is.length (α := α),D.like_to]
theorem like_right {h : Hist} {a b c : D} (hk : HistOk h) : (HiD.mk (a.like h.sizes) (b.like h.writes) (c.like h.events)).Right :=
 ⟨D.like_is _ _,D.like_is _ _,D.like_is _ _,by simp only [llen]; exact hk.1,by simp only [llen]; exact hk.2.1,by simp only [llen]; exact hk.2.2.1,by simp only [D.like_to]; exact hk.2.2.2⟩
theorem like_hist {h : Hist} {a b c : D} : (HiD.mk (a.like h.sizes) (b.like h.writes) (c.like h.events)).hist = h := by simp only [HiD.hist,D.like_to]
end Sx
end
section
open Go
namespace Sx
def stepE (ws : List Wt) (st : Hist × Nat) (e : Ev) : Hist × Nat :=
 if e.kind = 1 then (if (ackH st.1 e.write).2 = 0 then (ackH st.1 e.write).1 else st.1,st.2)
 else if st.2 < ws.length then (if (issueH st.1 (ws.getD st.2 zWt)).2.2 = 0 then (issueH st.1 (ws.getD st.2 zWt)).1 else st.1,st.2 + 1) else st
def runE (ws : List Wt) (h0 : Hist) (evs : List Ev) (j : Nat) : Hist × Nat := (evs.take j).foldl (stepE ws) (h0,0)
theorem runE_succ {ws : List Wt} {h0 : Hist} {evs : List Ev} {j : Nat} (hj : j < evs.length) : runE ws h0 evs (j + 1) = stepE ws (runE ws h0 evs j) evs[j] := by
 unfold runE
 rw [List.take_succ_eq_append_getElem hj,List.foldl_append]; rfl
def HB (m j : Nat) (st : Hist × Nat) : Prop := st.1.sizes.length ≤ m ∧ st.1.writes.length ≤ j ∧ st.1.events.length ≤ j ∧ (∀ w,w ∈ st.1.writes → w.data.length ≤ 1048576) ∧ st.2 ≤ j
noncomputable def repSV (ds : Nat → D) (r : Hist × Bool) : SV := .tup [hiSV ds r.1,.bool r.2]
end Sx
end
section
open Go
namespace Sx
structure TlOrd (i : Int) (t : Tl) : Prop where
 lt : ∀ w : Nat,w < t.issued.length → t.issued.getD w 0 < i
 inc : ∀ a b : Nat,a < b → b < t.issued.length → t.issued.getD a 0 < t.issued.getD b 0
 aft : ∀ w : Nat,w < t.issued.length → 0 ≤ t.acked.getD w 0 → t.issued.getD w 0 < t.acked.getD w 0
 len : t.acked.length = t.issued.length
theorem getD_app1 {l : List Int} {x : Int} {w : Nat} (h : w < l.length) : (l ++ [x]).getD w 0 = l.getD w 0 := by
 simp [List.getElem?_append_left h]
theorem getD_app2' {l : List Int} {x : Int} {w : Nat} (h : w = l.length) : (l ++ [x]).getD w 0 = x := by subst h; simp
theorem getD_set1 {l : List Int} {x : Int} {k w : Nat} (h : k ≠ w) : (l.set k x).getD w 0 = l.getD w 0 := by
 simp [h]
theorem getD_set2 {l : List Int} {x : Int} {k : Nat} (h : k < l.length) : (l.set k x).getD k 0 = x := by simp [h]
theorem evStep_ord {n : Nat} {i : Int} {t : Tl} {e : Ev} (hi : 0 ≤ i) (h : TlOrd i t) (h0 : (evStep n i t e).1 = 0) : TlOrd (i + 1) (evStep n i t e).2 := by
 unfold evStep at h0 ⊢
 split at h0
 ·rename_i hk
  rw [if_pos hk]
  split at h0
  ·exact absurd h0 (by simp)
  ·rename_i hc
   rw [if_neg hc]
   refine ⟨fun w hw=>?_,fun a b hab hb=>?_,fun w hw ha=>?_,by simp [h.len]⟩
   ·simp only [List.length_append,List.length_singleton] at hw ⊢
    by_cases e : w < t.issued.length
    ·rw [getD_app1 e]; have := h.lt w e; omega
    ·rw [getD_app2' (by omega)]; omega
   ·simp only [List.length_append,List.length_singleton] at hb ⊢
    by_cases e : b < t.issued.length
    ·rw [getD_app1 e,getD_app1 (by omega)]; exact h.inc a b hab e
    ·rw [getD_app2' (w := b) (by omega),getD_app1 (by omega)]; exact h.lt a (by omega)
   ·simp only [List.length_append,List.length_singleton] at hw ha ⊢
    by_cases e : w < t.issued.length
    ·have e' : w < t.acked.length := by rw [h.len]; exact e
     rw [getD_app1 (l := t.acked) e'] at ha ⊢
     rw [getD_app1 (l := t.issued) e]; exact h.aft w e ha
    ·rw [getD_app2' (by rw [h.len]; omega)] at ha; omega
 ·rename_i hk
  rw [if_neg hk]
  split at h0
  ·rename_i hk1
   rw [if_pos hk1]
   split at h0
   ·exact absurd h0 (by simp)
   ·rename_i hc
    rw [if_neg hc]
    split at h0
    ·exact absurd h0 (by simp)
    ·rename_i hd
     rw [if_neg hd]
     refine ⟨fun w hw=>?_,fun a b hab hb=>h.inc a b hab hb,fun w hw ha=>?_,by simp [h.len]⟩
     ·have := h.lt w hw; simp only; omega
     ·simp only at hw ha ⊢
      by_cases e : e.write.toNat = w
      ·subst e
       rw [getD_set2 (by rw [h.len]; omega)]
       exact h.lt _ hw
      ·rw [getD_set1 e] at ha ⊢
       exact h.aft w hw ha
  ·exact absurd h0 (by simp)
theorem runEv_ord {n : Nat} {l : List Ev} : ∀ j,j ≤ l.length → (runEv n l j).1 = 0 → TlOrd j (runEv n l j).2
 | 0,_,_=>⟨fun w hw=>absurd hw (by simp [runEv]),fun a b _ hb=>absurd hb (by simp [runEv]),fun w hw=>absurd hw (by simp [runEv]),by simp [runEv]⟩
 | j + 1,hj,h0=>by
  unfold runEv at h0 ⊢
  split at h0
  ·rename_i h1; exact absurd h0 h1
  ·rename_i h1
   rw [if_neg h1]
   have e : l[j]? = some l[j] := by simp [show j < l.length by omega]
   rw [e] at h0 ⊢
   simp only at h0 ⊢
   have := evStep_ord (n := n) (e := l[j]) (by omega) (runEv_ord j (by omega) (by simpa using h1)) h0
   simpa using this
theorem checkH_run {h : Hist} (hc : (checkH h).1 = 0) : (runEv h.writes.length h.events h.events.length).1 = 0 ∧ (checkH h).2 = (runEv h.writes.length h.events h.events.length).2 := by
 unfold checkH at hc ⊢
 split at hc
 ·rename_i h1; exact absurd hc h1
 ·rename_i h1
  rw [if_neg h1]
  split at hc
  ·exact absurd hc (by simp)
  ·rename_i h2
   rw [if_neg h2]
   split at hc
   ·rename_i h3; exact absurd hc h3
   ·rename_i h3
    rw [if_neg h3]
    split at hc
    ·rename_i h4; exact absurd hc h4
    ·rename_i h4
     rw [if_neg h4]
     split at hc
     ·exact absurd hc (by simp)
     ·rename_i h5
      rw [if_neg h5]
      exact ⟨by simpa using h4,rfl⟩
theorem places {h : Hist} (hc : (checkH h).1 = 0) :
  (∀ a b : Int,a < b → 0 ≤ a → b < h.writes.length → atEv h.events ⟨0,a⟩ < atEv h.events ⟨0,b⟩) ∧
  (∀ a : Int,0 ≤ atEv h.events ⟨1,a⟩ → 0 ≤ a ∧ a < h.writes.length ∧ atEv h.events ⟨0,a⟩ < atEv h.events ⟨1,a⟩) ∧
  ∀ a : Int,0 ≤ atEv h.events ⟨0,a⟩ ↔ 0 ≤ a ∧ a < h.writes.length := by
 obtain ⟨htl,hlen,_⟩ := checkH_ok hc
 obtain ⟨h0,h2⟩ := checkH_run hc
 have ho := runEv_ord _ (Nat.le_refl _) h0
 rw [← h2] at ho
 have hI : ∀ w : Nat,w < h.writes.length → (checkH h).2.issued.getD w 0 = atEv h.events ⟨0,w⟩ ∧ 0 ≤ atEv h.events ⟨0,w⟩ := fun w hw=>by
  have := htl.iss w (by omega)
  rw [← this.1]
  exact ⟨getD_lt (by omega),this.2⟩
 have hA : ∀ w : Nat,w < h.writes.length → (checkH h).2.acked.getD w 0 = atEv h.events ⟨1,w⟩ := fun w hw=>by
  rw [← htl.ack w (by have := htl.len; omega)]
  exact getD_lt (by have := htl.len; omega)
 have hout : ∀ a : Int,¬(0 ≤ a ∧ a < h.writes.length) → atEv h.events ⟨0,a⟩ = -1 ∧ atEv h.events ⟨1,a⟩ = -1 := fun a ha=>htl.not a (by omega)
 refine ⟨fun a b hab h1 h2=>?_,fun a ha=>?_,fun a=>⟨fun ha=>?_,fun ha=>?_⟩⟩
 ·obtain ⟨x,rfl⟩ := Int.eq_ofNat_of_zero_le h1
  obtain ⟨y,rfl⟩ := Int.eq_ofNat_of_zero_le (show 0 ≤ b by omega)
  rw [← (hI x (by omega)).1,← (hI y (by omega)).1]
  exact ho.inc x y (by omega) (by omega)
 ·have hr : 0 ≤ a ∧ a < h.writes.length := by
   rcases Classical.em (0 ≤ a ∧ a < h.writes.length) with h | h
   ·exact h
   ·rw [(hout a h).2] at ha; exact absurd ha (by decide)
  obtain ⟨x,rfl⟩ := Int.eq_ofNat_of_zero_le hr.1
  refine ⟨hr.1,hr.2,?_⟩
  rw [← hA x (by omega)] at ha ⊢
  rw [← (hI x (by omega)).1]
  exact ho.aft x (by omega) ha
 ·rcases Classical.em (0 ≤ a ∧ a < h.writes.length) with h | h
  ·exact h
  ·rw [(hout a h).1] at ha; exact absurd ha (by decide)
 ·obtain ⟨x,rfl⟩ := Int.eq_ofNat_of_zero_le ha.1
  exact (hI x (by omega)).2
theorem bef_iff {h : Hist} {a b : Int} : beforeH h a b = true ↔ (checkH h).1 = 0 ∧ 0 ≤ atEv h.events ⟨1,a⟩ ∧ atEv h.events ⟨1,a⟩ < atEv h.events ⟨0,b⟩ := by
 simp only [beforeH,beforeR,Bool.and_eq_true,decide_eq_true_eq,ge_iff_le]
theorem bef_lt {h : Hist} {a b : Int} (hb : beforeH h a b = true) : a < b := by
 obtain ⟨hc,h1,h2⟩ := bef_iff.1 hb
 obtain ⟨p1,p2,p3⟩ := places hc
 obtain ⟨q1,q2,q3⟩ := p2 a h1
 have r := (p3 b).1 (by omega)
 rcases Int.lt_trichotomy a b with h | h | h
 ·exact h
 ·subst h; omega
 ·have := p1 b a h r.1 q2; omega
end Sx
end
section
open Go
namespace Sx
theorem setUp_of {l : List Int} {n : Int} (h1 : l.Pairwise (· < ·)) (h2 : ∀ x,x ∈ l → 0 ≤ x ∧ x < n) : ∀ m,m ≤ l.length → setUp l n m = true
 | 0,_=>rfl
 | m + 1,hm=>by
  have hlt : m < l.length := by omega
  have h3 := h2 _ (List.getElem_mem hlt)
  simp only [setUp,Bool.and_eq_true,Bool.or_eq_true,decide_eq_true_eq]
  rw [getD_lt hlt]
  refine ⟨setUp_of h1 h2 m (by omega),h3.1,h3.2,?_⟩
  rcases Nat.eq_zero_or_pos m with e | e
  ·left; omega
  ·right
   rw [getD_lt (show m - 1 < l.length by omega)]
   exact (List.pairwise_iff_getElem.1 h1) (m - 1) m (by omega) hlt (by omega)
def filtN (n : Nat) (p : Int → Bool) : List Int := ((List.range n).map fun (a : Nat)=>(a : Int)).filter p
theorem filtN_mem {n : Nat} {p : Int → Bool} {x : Int} : x ∈ filtN n p ↔ 0 ≤ x ∧ x < n ∧ p x = true := by
 unfold filtN
 rw [List.mem_filter,List.mem_map]
 constructor
 ·rintro ⟨⟨a,ha,rfl⟩,h⟩
  have := List.mem_range.1 ha
  exact ⟨by omega,by omega,h⟩
 ·rintro ⟨h1,h2,h3⟩
  exact ⟨⟨x.toNat,List.mem_range.2 (by omega),by omega⟩,h3⟩
theorem filtN_set {n : Nat} {p : Int → Bool} : setH (filtN n p) n = true := by
 refine setUp_of ?_ (fun x hx=>⟨(filtN_mem.1 hx).1,(filtN_mem.1 hx).2.1⟩) _ (Nat.le_refl _)
 refine List.Pairwise.filter _ ?_
 rw [List.pairwise_map]
 exact List.pairwise_lt_range.imp (by intro a b h; omega)
theorem filtN_len {n : Nat} {p : Int → Bool} : (filtN n p).length ≤ n := Nat.le_trans (List.length_filter_le _ _) (by simp)
theorem filtN_succ {n : Nat} {p : Int → Bool} : filtN (n + 1) p = if p n = true then filtN n p ++ [(n : Int)] else filtN n p := by
 unfold filtN
 rw [List.range_succ,List.map_append,List.filter_append]
 simp only [List.map_cons,List.map_nil,List.filter_cons,List.filter_nil]
 split <;> simp
theorem contains_iff {l : List Int} {x : Int} : l.contains x = true ↔ x ∈ l := List.contains_iff_mem
theorem closedB_iff {h : Hist} {s : List Int} : closedB h s = true ↔ (checkH h).1 = 0 ∧ setH s h.writes.length = true ∧ ∀ b,b ∈ s → ∀ a : Int,0 ≤ a → a < h.writes.length → beforeH h a b = true → a ∈ s := by
 simp only [closedB,Bool.and_eq_true,decide_eq_true_eq,closedS,List.all_eq_true,rowOkR,List.mem_range,Bool.or_eq_true,Bool.not_eq_true',contains_iff]
 constructor
 ·rintro ⟨h1,h2,h3⟩
  refine ⟨h1,h2,fun b hb a ha1 ha2 hbf=>?_⟩
  have := h3 b hb a.toNat (by omega)
  rw [Int.toNat_of_nonneg ha1] at this
  rcases this with h | h
  ·simp only [beforeH,Bool.and_eq_true,h] at hbf; exact absurd hbf.2 (by simp)
  ·exact h
 ·rintro ⟨h1,h2,h3⟩
  refine ⟨h1,h2,fun b hb a ha=>?_⟩
  cases e : beforeR h.events (a : Int) b with
  | false=>exact .inl rfl
  | true=>exact .inr (h3 b hb a (by omega) (by omega) (by simp only [beforeH,Bool.and_eq_true,decide_eq_true_eq]; exact ⟨h1,e⟩))
theorem closedB_filt {h : Hist} {p : Int → Bool} (hc : (checkH h).1 = 0) (hp : ∀ a b,0 ≤ a → p b = true → beforeH h a b = true → p a = true) : closedB h (filtN h.writes.length p) = true :=
 closedB_iff.2 ⟨hc,filtN_set,fun b hb a h1 h2 hbf=>filtN_mem.2 ⟨h1,h2,hp a b h1 (filtN_mem.1 hb).2.2 hbf⟩⟩
theorem firstN_filt {n i : Nat} (hi : i ≤ n) : firstN (i : Int) = filtN n fun x=>decide (x < (i : Int)) := by
  unfold firstN
  rw [Int.toNat_natCast]
  induction n with
  | zero => have : i = 0 := by omega
            subst this; rfl
  | succ n ih =>
    rw [filtN_succ]
    by_cases e : i ≤ n
    · rw [if_neg (by simp; omega)]; exact ih e
    · have : i = n + 1 := by omega
      subst this
      rw [if_pos (by simp; omega),List.range_succ,List.map_append]
      congr 1
      unfold filtN
      rw [List.filter_eq_self.2]
      intro x hx
      obtain ⟨k,hk,rfl⟩ := List.mem_map.1 hx
      have := List.mem_range.1 hk
      simp; omega
theorem closedB_first {h : Hist} {i : Nat} (hc : (checkH h).1 = 0) (hi : i ≤ h.writes.length) : closedB h (firstN (i : Int)) = true := by
 rw [firstN_filt hi]
 refine closedB_filt hc fun a b _ hb hbf=>?_
 have := bef_lt hbf
 simp only [decide_eq_true_eq] at hb ⊢
 omega
end Sx
end
section
open Go
namespace Sx
structure Gr where
 hist : Hist
 waiting : List Int
 held : List Int
 frozen : Bool
deriving DecidableEq
structure GrD where
 h : HiD
 wt : D
 hd : D
 fz : Bool
def GrD.gr (x : GrD) : Gr := ⟨x.h.hist,x.wt.to Int,x.hd.to Int,x.fz⟩
def GrD.Right (x : GrD) : Prop := x.h.Right ∧ x.wt.Is Int ∧ x.hd.Is Int ∧ x.wt.len ≤ 1048576 ∧ x.hd.len ≤ 1048576

def ackStep (a : List Bool) (x : Ev) : List Bool := if x.kind = 1 then a.set x.write.toNat true else a
def ackd (n : Nat) (l : List Ev) : List Bool := l.foldl ackStep (List.replicate n false)
theorem ackd_step {n : Nat} {l : List Ev} {j : Nat} (hj : j < l.length) : ackd n (l.take (j + 1)) = ackStep (ackd n (l.take j)) l[j] := by
 unfold ackd
 rw [List.take_succ_eq_append_getElem hj,List.foldl_append]
 rfl
theorem ackStep_len (a : List Bool) (x : Ev) : (ackStep a x).length = a.length := by
 unfold ackStep; split <;> simp
theorem ackd_len (n : Nat) (l : List Ev) : (ackd n l).length = n := by
 unfold ackd
 have : ∀ (l : List Ev) (a : List Bool),(l.foldl ackStep a).length = a.length := by
  intro l
  induction l with
  | nil=>intro a; rfl
  | cons x r ih=>intro a; rw [List.foldl_cons,ih,ackStep_len]
 rw [this,List.length_replicate]
def markAll : List Int → List Bool → Option (List Bool)
 | [],s=>some s
 | w :: l,s=>if w < 0 ∨ w ≥ s.length then none else if s.getD w.toNat false = true then none else markAll l (s.set w.toNat true)
def divided (g : Gr) : Bool := asc g.waiting && match markAll (g.waiting ++ g.held) (ackd g.hist.writes.length g.hist.events) with
 | some s=>!s.any fun y=>decide (false = y)
 | none=>false
def openErr (g : Gr) : Int :=
 if (checkH g.hist).1 ≠ 0 then (checkH g.hist).1
 else if divided g = false then 3
 else if g.held.length > 0 ∧ g.frozen = false then 12 else 0

theorem mark_out {w : Int} {l : List Int} {s : List Bool} (h : w < 0 ∨ w ≥ s.length) : markAll (w :: l) s = none := by
 unfold markAll; rw [if_pos h]
theorem mark_hit {w : Int} {l : List Int} {s : List Bool} (h : s.getD w.toNat false = true) : markAll (w :: l) s = none := by
 unfold markAll; rw [h]; simp
theorem mark_go {w : Int} {l : List Int} {s : List Bool} (h : ¬(w < 0 ∨ w ≥ s.length)) (h2 : s.getD w.toNat false = false) : markAll (w :: l) s = markAll l (s.set w.toNat true) := by
 conv=>lhs; unfold markAll
 rw [if_neg h,h2]; simp
theorem set_data {d : D} (hd : d.Is Wt) {i : Nat} (hi : i < (d.to Wt).length) (a : Hd) :
  (d.setCells i 2 [D.slc a 8 (D.rows (d.cell i 2))]).Is Wt ∧ (d.setCells i 2 [D.slc a 8 (D.rows (d.cell i 2))]).to Wt = d.to Wt := by
 obtain ⟨r,h1,⟨v,s,x,rfl,hx⟩,h3⟩ := hd.row hi
 have e2 : d.cell i 2 = x := by simp [D.cell,D.cellAt,h1]
 have hz := hd.size hi
 have hr := rows_of hd
 have hl' := rows_len hr
 have hgi : d.rows.getD i [] = [.int .i64 v,.int .i64 s,x] := by rw [List.getD_eq_getElem?_getD,h1]; rfl
 have ec : cutIn (d.rows.getD i []) 2 [D.slc a 8 (D.rows (d.cell i 2))] = [.int .i64 v,.int .i64 s,D.slc a 8 x.rows] := by
  rw [hgi,e2]; rfl
 have hxs : (D.slc a 8 x.rows).Is Sec ∧ (D.slc a 8 x.rows).to Sec = x.to Sec := is_of rfl (rows_of hx)
 have hok : Codec.ok Wt [.int .i64 v,.int .i64 s,D.slc a 8 x.rows] := ⟨v,s,_,rfl,hxs.1⟩
 have hdec : (Codec.dec [.int .i64 v,.int .i64 s,D.slc a 8 x.rows] : Wt) = (d.to Wt)[i] := by
  rw [h3]
  show (⟨v,s,(D.slc a 8 x.rows).to Sec⟩ : Wt) = ⟨v,s,x.to Sec⟩
  rw [hxs.2]
 have := is_of (α := Wt) (h := d.hd) (s := d.sz) (rows := d.rows.set i [.int .i64 v,.int .i64 s,D.slc a 8 x.rows]) (xs := d.to Wt) hz ⟨fun r hr'=>by
  rcases List.mem_or_eq_of_mem_set hr' with h | h
  ·exact hr.1 r h
  ·rw [h]; exact hok,by rw [List.map_set,hr.2,hdec,List.set_getElem_self]⟩
 unfold D.setCells
 rw [ec]
 exact this
end Sx
end
section
open Go
namespace Sx
def rdGr : Rd1 GrD where
 read x := match x with
  | .agg [s,w,e,wt,hd,fz]=>match rdD.read s,rdD.read w,rdD.read e,rdD.read wt,rdD.read hd,rdBool.read fz with
   | some s,some w,some e,some wt,some hd,some fz=>some ⟨⟨s,w,e⟩,wt,hd,fz⟩
   | _,_,_,_,_,_=>none
  | _=>none
 canon g := .agg [.dat g.h.s,.dat g.h.w,.dat g.h.e,.dat g.wt,.dat g.hd,.bool g.fz]
 right H E x b h hok := by
  split at h
  ·split at h
   ·rename_i h1 h2 h3 h4 h5 h6
    cases h
    obtain ⟨a1,a2,a3,a4,a5,a6,_⟩ := hok
    obtain ⟨i1,i2⟩ := rdD.right H E _ _ h1 a1
    obtain ⟨j1,j2⟩ := rdD.right H E _ _ h2 a2
    obtain ⟨k1,k2⟩ := rdD.right H E _ _ h3 a3
    obtain ⟨l1,l2⟩ := rdD.right H E _ _ h4 a4
    obtain ⟨m1,m2⟩ := rdD.right H E _ _ h5 a5
    obtain ⟨n1,n2⟩ := rdBool.right H E _ _ h6 a6
    refine ⟨?_,i2,j2,k2,l2,m2,n2,trivial⟩
    simp only [SV.den,SV.denL,i1,j1,k1,l1,m1,n1]
    rfl
   ·cases h
  ·cases h
def spCkG (g : GrD) : SpecR := .scalar [g.Right] (.int .i64 (openErr g.gr))
end Sx
end
section
open Go
namespace Sx
noncomputable def grSV (ds : Nat → D) (g : Gr) : SV := .agg [.dat ((ds 0).like g.hist.sizes),.dat ((ds 1).like g.hist.writes),.dat ((ds 2).like g.hist.events),.dat ((ds 3).like g.waiting),.dat ((ds 4).like g.held),.bool g.frozen]
structure StandsG (X : SV) (g : Gr) : Prop where
 ex : ∃ ds : Nat → D,(∀ E,X.den E = (grSV ds g).den E) ∧ ∀ H,X.Ok H → (grSV ds g).Ok H
theorem stands_gr {X Y Z U V F : SV} {s : List Int} {ws : List Wt} {es : List Ev} {wt hd : List Int} {b : Bool} {g : Gr} (hx : Stands Int X s) (hy : Stands Wt Y ws) (hz : Stands Ev Z es) (hu : Stands Int U wt) (hv : Stands Int V hd) (hf : ∀ E,F.den E = .bool b) (e : g = ⟨⟨s,ws,es⟩,wt,hd,b⟩) :
  StandsG (.agg [X,Y,Z,U,V,F]) g := by
 subst e
 obtain ⟨d,h1,h2,h3,h4⟩ := hx
 obtain ⟨d',h1',h2',h3',h4'⟩ := hy
 obtain ⟨d'',h1'',h2'',h3'',h4''⟩ := hz
 obtain ⟨c,k1,k2,k3,k4⟩ := hu
 obtain ⟨c',k1',k2',k3',k4'⟩ := hv
 refine ⟨fun i=>match i with | 0=>d | 1=>d' | 2=>d'' | 3=>c | _=>c',fun E=>?_,fun H' ho=>?_⟩
 ·simp only [grSV,SV.den,SV.denL,D.like_self h2 h3,D.like_self h2' h3',D.like_self h2'' h3'',D.like_self k2 k3,D.like_self k2' k3',h1,h1',h1'',k1,k1',hf]
 ·simp only [grSV,SV.Ok,SV.OkL,D.like_self h2 h3,D.like_self h2' h3',D.like_self h2'' h3'',D.like_self k2 k3,D.like_self k2' k3'] at ho ⊢
  exact ⟨⟨h4 _ ho.1,h2.slc⟩,⟨h4' _ ho.2.1,h2'.slc⟩,⟨h4'' _ ho.2.2.1,h2''.slc⟩,⟨k4 _ ho.2.2.2.1,k2.slc⟩,⟨k4' _ ho.2.2.2.2.1,k2'.slc⟩,trivial,trivial⟩
section
variable {P : Program} {w : World} {H : HV}
theorem ret_grI {X : SV} {g : Gr} {k k' : Int} (h : StandsG X g) (hk : k = k') : (Tree.ret (.tup [X,.int .i64 k])).holds P ⟨w,H⟩ (RetD w H fun ds=>.tup [grSV ds g,.int .i64 k']) := by
 subst hk
 obtain ⟨ds,h1,h2⟩ := h.ex
 refine ret_D ds (fun E E'=>?_) (fun H' ho=>?_)
 ·simp only [SV.den,SV.denL,h1 E]; simp only [grSV,SV.den,SV.denL]
 ·simp only [SV.Ok,SV.OkL] at ho ⊢; exact ⟨h2 H' ho.1,ho.2⟩
theorem ret_grII {X : SV} {g : Gr} {k k' m m' : Int} (h : StandsG X g) (hk : k = k') (hm : m = m') : (Tree.ret (.tup [X,.int .i64 k,.int .i64 m])).holds P ⟨w,H⟩ (RetD w H fun ds=>.tup [grSV ds g,.int .i64 k',.int .i64 m']) := by
 subst hk; subst hm
 obtain ⟨ds,h1,h2⟩ := h.ex
 refine ret_D ds (fun E E'=>?_) (fun H' ho=>?_)
 ·simp only [SV.den,SV.denL,h1 E]; simp only [grSV,SV.den,SV.denL]
 ·simp only [SV.Ok,SV.OkL] at ho ⊢; exact ⟨h2 H' ho.1,ho.2⟩
end
def zGr : Gr := ⟨zHist,[],[],false⟩
def freezeG (g : Gr) : Gr × Int × Int :=
 if openErr g ≠ 0 then (zGr,0,openErr g) else if g.frozen then (zGr,0,26) else (⟨g.hist,g.waiting,g.held,true⟩,g.hist.writes.length,0)
noncomputable def spFrzG (x : GrD) : SpecR := .data [x.Right] fun ds=>.tup [grSV ds (freezeG x.gr).1,.int .i64 (freezeG x.gr).2.1,.int .i64 (freezeG x.gr).2.2]
def newG (s : List Int) : Gr × Int := if sizesErr s ≠ 0 then (zGr,sizesErr s) else (⟨⟨s,[],[]⟩,[],[],false⟩,0)
noncomputable def spNewG (x : D) : SpecR := .data [x.Is Int ∧ x.len ≤ 1048576] fun ds=>.tup [grSV ds (newG (x.to Int)).1,.int .i64 (newG (x.to Int)).2]
end Sx
end
section
open Go
namespace Sx
def issueG (g : Gr) (w : Wt) : Gr × Int × Int :=
 if openErr g ≠ 0 then (zGr,0,openErr g) else if (issueH g.hist w).2.2 ≠ 0 then (zGr,0,(issueH g.hist w).2.2)
 else (⟨(issueH g.hist w).1,g.waiting ++ [(issueH g.hist w).2.1],g.held,g.frozen⟩,(issueH g.hist w).2.1,0)
noncomputable def spIssueG (x : GrD × WtD) : SpecR := .data [x.1.Right ∧ x.1.h.e.len ≤ 1000000 ∧ x.2.Ok] fun ds=>.tup [grSV ds (issueG x.1.gr x.2.wt).1,.int .i64 (issueG x.1.gr x.2.wt).2.1,.int .i64 (issueG x.1.gr x.2.wt).2.2]
theorem issueG_e1 {g : Gr} {w : Wt} (h : openErr g ≠ 0) : issueG g w = (zGr,0,openErr g) := by unfold issueG; rw [if_pos h]
theorem issueG_e2 {g : Gr} {w : Wt} (h : openErr g = 0) (h2 : (issueH g.hist w).2.2 ≠ 0) : issueG g w = (zGr,0,(issueH g.hist w).2.2) := by unfold issueG; rw [if_neg (by simp [h]),if_pos h2]
theorem issueG_ok {g : Gr} {w : Wt} (h : openErr g = 0) (h2 : (issueH g.hist w).2.2 = 0) : issueG g w = ((⟨(issueH g.hist w).1,g.waiting ++ [(issueH g.hist w).2.1],g.held,g.frozen⟩ : Gr),(issueH g.hist w).2.1,(0 : Int)) := by unfold issueG; rw [if_neg (by simp [h]),if_neg (by simp [h2])]
end Sx
end
section
open Go
namespace Sx
section
variable {P : Program} {w : World} {H : HV}
theorem ret_grLI {X L : SV} {g : Gr} {l : List Int} {k k' : Int} (h : StandsG X g) (hl : Stands Int L l) (hk : k = k') : (Tree.ret (.tup [X,L,.int .i64 k])).holds P ⟨w,H⟩ (RetD w H fun ds=>.tup [grSV ds g,.dat ((ds 5).like l),.int .i64 k']) := by
 subst hk
 obtain ⟨ds,h1,h2⟩ := h.ex
 obtain ⟨d,k1,k2,k3,k4⟩ := hl
 refine ret_D (fun i=>if i = 5 then d else ds i) (fun E E'=>?_) (fun H' ho=>?_)
 ·simp only [SV.den,SV.denL,h1 E]; simp [grSV,SV.den,SV.denL,D.like_self k2 k3,k1]
 ·simp only [SV.Ok,SV.OkL] at ho ⊢
  have h3 := h2 H' ho.1
  simp only [grSV,SV.Ok,SV.OkL] at h3 ⊢
  simp [D.like_self k2 k3]
  exact ⟨⟨h3.1,h3.2.1,h3.2.2.1,h3.2.2.2.1,h3.2.2.2.2.1⟩,k4 _ ho.2.1,k2.slc⟩
end
theorem markAll_in : ∀ {l : List Int} {s s' : List Bool},markAll l s = some s' → ∀ w,w ∈ l → 0 ≤ w ∧ w < s.length
 | [],_,_,_,_,h=>by cases h
 | v :: l,s,s',hm,w,h=>by
  by_cases h1 : v < 0 ∨ v ≥ s.length
  ·rw [mark_out h1] at hm; cases hm
  ·cases h2 : s.getD v.toNat false with
   | true=>rw [mark_hit h2] at hm; cases hm
   | false =>
    rw [mark_go h1 h2] at hm
    rcases List.mem_cons.1 h with rfl | h
    ·omega
    ·have := markAll_in hm w h; simpa using this
theorem openErr_in {g : Gr} (h : openErr g = 0) : (checkH g.hist).1 = 0 ∧ divided g = true ∧ ∀ w,w ∈ g.waiting ++ g.held → 0 ≤ w ∧ w < g.hist.writes.length := by
 unfold openErr at h
 by_cases h1 : (checkH g.hist).1 ≠ 0
 ·rw [if_pos h1] at h; exact absurd h h1
 ·rw [if_neg h1] at h
  cases h2 : divided g with
  | false=>rw [h2] at h; simp at h
  | true =>
   refine ⟨by simpa using h1,rfl,?_⟩
   unfold divided at h2
   cases hm : markAll (g.waiting ++ g.held) (ackd g.hist.writes.length g.hist.events) with
   | none=>rw [hm] at h2; simp at h2
   | some s=>have := markAll_in hm; rwa [ackd_len] at this
def thawG (g : Gr) : Gr × List Int × Int :=
 if openErr g ≠ 0 then (zGr,[],openErr g) else if g.frozen = false then (zGr,[],12)
 else (⟨⟨g.hist.sizes,g.hist.writes,g.hist.events ++ g.held.map (Ev.mk 1)⟩,g.waiting,[],false⟩,g.held,0)
theorem thawG_e1 {g : Gr} (h : openErr g ≠ 0) : thawG g = (zGr,[],openErr g) := by unfold thawG; rw [if_pos h]
theorem thawG_e2 {g : Gr} (h : openErr g = 0) (h2 : g.frozen = false) : thawG g = (zGr,[],12) := by unfold thawG; rw [if_neg (by simp [h]),if_pos h2]
theorem thawG_ok {g : Gr} (h : openErr g = 0) (h2 : g.frozen = true) : thawG g = ((⟨⟨g.hist.sizes,g.hist.writes,g.hist.events ++ g.held.map (Ev.mk 1)⟩,g.waiting,[],false⟩ : Gr),g.held,(0 : Int)) := by unfold thawG; rw [if_neg (by simp [h]),if_neg (by simp [h2])]
noncomputable def spThawG (x : GrD) : SpecR := .data [x.Right] fun ds=>.tup [grSV ds (thawG x.gr).1,.dat ((ds 5).like (thawG x.gr).2.1),.int .i64 (thawG x.gr).2.2]
end Sx
end
section
open Go
namespace Sx
theorem idxG_range {α : Type} {l : List α} {p : α → Bool} (h : ¬idxG l p < 0) : ∃ j : Nat,idxG l p = j ∧ ∃ hj : j < l.length,p l[j] = true := by
 unfold idxG at h ⊢
 cases hf : l.findIdx? p with
 | none=>rw [hf] at h; simp at h
 | some i =>
  rw [List.findIdx?_eq_some_iff_getElem] at hf
  obtain ⟨h1,h2,_⟩ := hf
  exact ⟨i,rfl,h1,h2⟩
def durG (g : Gr) (n : Int) : Gr × List Int × Int :=
 if openErr g ≠ 0 then (zGr,[],openErr g)
 else if (idxG g.waiting fun y=>decide (n = y)) < 0 then (zGr,[],7)
 else if g.frozen = true then (⟨g.hist,g.waiting.take (idxG g.waiting fun y=>decide (n = y)).toNat ++ g.waiting.drop ((idxG g.waiting fun y=>decide (n = y)).toNat + 1),g.held ++ [n],true⟩,[],0)
 else (⟨⟨g.hist.sizes,g.hist.writes,g.hist.events ++ [⟨1,n⟩]⟩,g.waiting.take (idxG g.waiting fun y=>decide (n = y)).toNat ++ g.waiting.drop ((idxG g.waiting fun y=>decide (n = y)).toNat + 1),g.held,false⟩,[n],0)
theorem durG_e1 {g : Gr} {n : Int} (h : openErr g ≠ 0) : durG g n = (zGr,[],openErr g) := by unfold durG; rw [if_pos h]
theorem durG_e2 {g : Gr} {n : Int} (h : openErr g = 0) (h2 : (idxG g.waiting fun y=>decide (n = y)) < 0) : durG g n = (zGr,[],7) := by unfold durG; rw [if_neg (by simp [h]),if_pos h2]
theorem durG_fz {g : Gr} {n : Int} (h : openErr g = 0) {j : Nat} (h2 : (idxG g.waiting fun y=>decide (n = y)) = j) (h3 : g.frozen = true) :
  durG g n = ((⟨g.hist,g.waiting.take j ++ g.waiting.drop (j + 1),g.held ++ [n],true⟩ : Gr),([] : List Int),(0 : Int)) := by
 unfold durG; rw [if_neg (by simp [h]),h2,if_neg (by omega),if_pos h3]; rfl
theorem durG_un {g : Gr} {n : Int} (h : openErr g = 0) {j : Nat} (h2 : (idxG g.waiting fun y=>decide (n = y)) = j) (h3 : g.frozen = false) :
  durG g n = ((⟨⟨g.hist.sizes,g.hist.writes,g.hist.events ++ [⟨1,n⟩]⟩,g.waiting.take j ++ g.waiting.drop (j + 1),g.held,false⟩ : Gr),[n],(0 : Int)) := by
 unfold durG; rw [if_neg (by simp [h]),h2,if_neg (by omega),if_neg (by simp [h3])]; rfl
noncomputable def spDurG (x : GrD × Int) : SpecR := .data [x.1.Right] fun ds=>.tup [grSV ds (durG x.1.gr x.2).1,.dat ((ds 5).like (durG x.1.gr x.2).2.1),.int .i64 (durG x.1.gr x.2).2.2]
end Sx
end
section
open Go
namespace Sx
def cntI (l : List Int) (n : Int) : Nat := l.foldl (fun k x=>if x = n then k + 1 else k) 0
theorem cntI_step {l : List Int} {n : Int} {j : Nat} (hj : j < l.length) : cntI (l.take (j + 1)) n = if l[j] = n then cntI (l.take j) n + 1 else cntI (l.take j) n := by
 unfold cntI
 rw [List.take_succ_eq_append_getElem hj,List.foldl_append]
 rfl
theorem cntI_le (l : List Int) (n : Int) : cntI l n ≤ l.length := by
 have : ∀ (l : List Int) (k : Nat),l.foldl (fun k x=>if x = n then k + 1 else k) k ≤ k + l.length := by
  intro l
  induction l with
  | nil=>intro k; simp
  | cons x r ih =>
   intro k
   rw [List.foldl_cons,List.length_cons]
   by_cases h : x = n
   ·rw [if_pos h]; have := ih (k + 1); omega
   ·rw [if_neg h]; have := ih k; omega
 have := this l 0; unfold cntI; omega
def spCnt (x : D × Int) : SpecR := .scalar [x.1.Is Int ∧ x.1.len ≤ 1048576] (.int .i64 (cntI (x.1.to Int) x.2))
def spAckd (x : HiD × Int) : SpecR := .scalar [x.1.e.Is Ev ∧ x.1.e.len ≤ 1048576] (.bool (decide (atEv (x.1.e.to Ev) ⟨1,x.2⟩ ≥ 0)))
end Sx
end
section
namespace Sx
open Go RowKit
def cellOk (m : Mem) : SV → Bool
 | .int ..=>true
 | .bool _=>true
 | .lb _=>true
 | .str _=>true
 | .nils=>true
 | .dat _=>true
 | .vec j=>match m.get j with
  | some (.arr ..)=>true
  | some (.pub _)=>true
  | _=>false
 | _=>false
abbrev PSpec := List SV → List SV → Option (List Prop × ((Nat → D) → SV))
def rowD (b : Nat) (row : List D) : D := .slc (some (⟨b,0,none⟩,1)) row.length [row]








end Sx
end
section
namespace Sx
open Go RowKit Go.Sort
def Deletes (P : Program) (f : FuncId) : Prop := ∀ (blk cap i j : Nat) (zs : List Int) (w : World),Holds (Value.int .i64) w blk 0 zs.toArray → zs.length ≤ cap → cap ≤ 9223372036854775807 → i ≤ j → j ≤ zs.length →
 Calls P f #[.slice (some ⟨blk,0,none⟩) zs.length cap,.int .i64 i,.int .i64 j] w fun e w'=>e = .returned (.slice (some ⟨blk,0,none⟩) (zs.length - (j - i)) cap) ∧ ∃ q,w' = putRow (Value.int .i64) (Sort.ahead w q) blk 0 (zs.take i ++ zs.drop j ++ List.replicate (j - i) 0).toArray

def dCtr (e : TypeId) : Ctr := fun args key m=>match args with
 | [.vec k,.int .i64 i,.int .i64 j]=>match m.get k with
  | some (.arr e' d)=>if e' = e then .all [d.Is Int ∧ 0 ≤ i ∧ i < j ∧ j ≤ (d.len : Int)] fun _=>(.vec key,(key,.arr e (.slc d.hd d.sz (d.rows.take i.toNat ++ d.rows.drop j.toNat))) :: m.del k) else .bad
  | _=>.bad
 | _=>.bad

theorem roM_arr : ∀ {m : Mem} {k : Nat} {e : TypeId} {d : D},roM m = true → m.get k = some (.arr e d) → False
 | [],_,_,_,_,h=>by simp [Mem.get] at h
 | (j,o) :: r,k,e,d,h,hg=>by
  simp only [Mem.get] at hg
  split at hg
  ·cases hg; simp [roM] at h
  ·cases o <;> simp [roM] at h
   ·exact roM_arr h hg
   ·exact roM_arr h hg

theorem dCtr_ro (e : TypeId) : CtrRO (dCtr e) := by
 intro args key m h
 have hb : dCtr e args key m = .bad := by
  unfold dCtr
  split
  ·split
   ·rename_i hg
    exact (roM_arr h hg).elim
   ·rfl
  ·rfl
 rw [hb]
 trivial


theorem flat_ints : ∀ {rows : List (List D)} {zs : List Int},SRows Int rows zs → flat rows = zs.map (Value.int .i64)
 | [],zs,h=>by rw [← h.2]; rfl
 | r :: rs,zs,h=>by
  obtain ⟨n,rfl⟩ := h.1 r List.mem_cons_self
  have ih := flat_ints (rows := rs) (zs := rs.map (Codec.dec (α := Int))) ⟨fun r hr=>h.1 r (List.mem_cons_of_mem _ hr),rfl⟩
  rw [← h.2,List.map_cons,List.map_cons,← ih]
  rfl

theorem rows_take {α : Type} [Codec α] {rows : List (List D)} {xs : List α} (h : SRows α rows xs) (i : Nat) : SRows α (rows.take i) (xs.take i) :=
 ⟨fun r hr=>h.1 r (List.mem_of_mem_take hr),by rw [List.map_take,h.2]⟩
theorem rows_drop {α : Type} [Codec α] {rows : List (List D)} {xs : List α} (h : SRows α rows xs) (i : Nat) : SRows α (rows.drop i) (xs.drop i) :=
 ⟨fun r hr=>h.1 r (List.mem_of_mem_drop hr),by rw [List.map_drop,h.2]⟩
theorem rows_zero (n : Nat) : SRows Int (List.replicate n [D.int .i64 0]) (List.replicate n 0) :=
 ⟨fun r hr=>by rw [List.eq_of_mem_replicate hr]; exact ⟨0,rfl⟩,by simp [List.map_replicate,Codec.dec,D.getInt]⟩

theorem int_okH {H : HV} {rows : List (List D)} {zs : List Int} (h : SRows Int rows zs) : ∀ r,r ∈ rows → ∀ x,x ∈ r → D.Ok H x := by
 intro r hr x hx
 obtain ⟨n,rfl⟩ := h.1 r hr
 rw [List.mem_singleton.1 hx]
 exact .int _ _
theorem int_len1 {rows : List (List D)} {zs : List Int} (h : SRows Int rows zs) : ∀ r,r ∈ rows → r.length = 1 := by
 intro r hr
 obtain ⟨n,rfl⟩ := h.1 r hr
 rfl

theorem putCells_take {cur : Array Value} {zs : List Int} (h : zs.length ≤ cur.size) : (putCells (Value.int .i64) 0 zs.toArray cur).toList.take zs.length = zs.map (Value.int .i64) := by
 apply List.ext_getElem?
 intro k
 rw [List.getElem?_take]
 by_cases hk : k < zs.length
 ·rw [if_pos hk]
  have hk2 : k < (putCells (Value.int .i64) 0 zs.toArray cur).toList.length := by simp [putCells]; omega
  rw [List.getElem?_eq_getElem hk2]
  simp [putCells,hk]
 ·rw [if_neg hk,List.getElem?_eq_none (by simp; omega)]

theorem dCtr_ok {P : Program} {f : FuncId} {e : TypeId} (hb : ∃ fn,P.funcs[f]? = some fn ∧ fn.body.isSome = true ∧ (fn.name == "runtime.NumGoroutine") = false) (hd : Deletes P f) : CtrOk P f (dCtr e) := by
 refine ⟨hb,fun C E H w args key m g hargs hk hk2=>?_,dCtr_ro e⟩
 unfold CallRight dCtr
 split
 ·rename_i r v m2 heq
  split at heq
  ·split at heq
   ·split at heq <;> cases heq
   ·cases heq
  ·cases heq
 ·rename_i r ps gg heq
  split at heq
  ·rename_i k i j
   split at heq
   ·rename_i e' d hkk
    split at heq
    ·rename_i he
     subst he
     cases heq
     intro hp
     obtain ⟨h0,h1,h2,h3⟩ := hp _ (List.mem_singleton.2 rfl)
     have hmem := Mem.get_mem hkk
     have hown := g.own k _ hmem
     obtain ⟨hd',sz,rows,rfl,hv,how,hl,hk3,ha⟩ := hown
     have hR := rows_of h0
     simp only [D.rows] at hR
     generalize hzs : D.to Int (D.slc hd' sz rows) = zs at hR
     have hrl := rows_len hR
     simp only [D.len,D.rows] at h3
     have hsz : sz = 1 := by
      have h4 : 0 < rows.length := by omega
      have := hl rows[0] (List.getElem_mem h4)
      rw [int_len1 hR _ (List.getElem_mem h4)] at this
      exact this.symm
     subst hsz
     rcases how with ⟨hfl,hcase⟩
     rcases hcase with ⟨hq,h4⟩ | ⟨g',cap,cur,hq,hbase,hg,hnc,hcm,hcs,htake⟩
     ·omega
     ·cases hd' with
      | none=>simp [D.val,hval] at hq
      | some ac =>
       obtain ⟨a,c⟩ := ac
       obtain ⟨rfl,hno⟩ := ha a c rfl
       simp only [D.val,hval,Value.slice.injEq,Option.some.injEq,Addr.mk.injEq] at hq
       obtain ⟨⟨hgb,_,_⟩,_,rfl⟩ := hq
       subst hgb
       rw [flat_ints hR,Nat.mul_one] at htake
       rw [Nat.mul_one] at hcs
       have hH : Holds (Value.int .i64) w (E.b k) 0 zs.toArray := by
        intro t ht
        simp only [List.size_toArray] at ht
        constructor
        ·simp only [World.cell?,hg,Nat.zero_add]
         have h5 : cur[t]? = (zs.map (Value.int .i64))[t]? := by
          rw [← htake,List.getElem?_take,if_pos (by omega),Array.getElem?_toList]
         simp [h5,ht]
        ·simp [World.frozen?,hg]
       obtain ⟨i',rfl⟩ := Int.eq_ofNat_of_zero_le h1
       obtain ⟨j',rfl⟩ := Int.eq_ofNat_of_zero_le (show 0 ≤ j by omega)
       have hcall := hd (E.b k) c i' j' zs w hH (by omega) (by simp only [maxLen] at hcm; omega) (by omega) (by omega)
       have hargs' : (SV.denL E [.vec k,.int .i64 (i' : Int),.int .i64 (j' : Int)]).toArray = #[.slice (some ⟨E.b k,0,none⟩) zs.length c,.int .i64 i',.int .i64 j'] := by
        simp [SV.denL,SV.den,hv,hval,hrl]
       simp only [Int.toNat_natCast]
       rw [hargs']
       refine hcall.mono ?_
       rintro ev w' ⟨rfl,q,hw'⟩
       -- the rows behind the call
       generalize hzs' : (zs.take i' ++ zs.drop j' ++ List.replicate (j' - i') 0) = zs' at hw'
       have hzl : zs'.length = zs.length := by rw [← hzs']; simp; omega
       have hR' : SRows Int (rows.take i' ++ rows.drop j' ++ List.replicate (j' - i') [D.int .i64 0]) zs' := by
        rw [← hzs']
        exact rows_app (rows_app (rows_take hR i') (rows_drop hR j')) (rows_zero _)
       have hheap : w'.heap[E.b k]? = some (.cells (putCells (Value.int .i64) 0 zs'.toArray cur) e' (0,0)) := by
        rw [hw']; simp [putRow,mapBlock,Sort.ahead,Array.getElem?_modify,hg,onCells]
       have hother : ∀ b,b ≠ E.b k → w'.heap[b]? = w.heap[b]? := by
        intro b hb
        rw [hw']; simp [putRow,mapBlock,Sort.ahead,Array.getElem?_modify,Ne.symm hb]
       have hsize : w'.heap.size = w.heap.size := by rw [hw']; simp [putRow,mapBlock,Sort.ahead]
       have hos : w'.os = w.os := by rw [hw']; rfl
       have htp : w'.tape = w.tape := by rw [hw']; rfl
       have hou : w'.output = w.output := by rw [hw']; rfl
       have hrow' := hR'
       have hcs' : (putCells (Value.int .i64) 0 zs'.toArray cur).size = c := by simp [putCells,hcs]
       have g1 : Good C (m.set k (.arr e' (.slc (some (⟨E.b k,0,none⟩,c)) 1 (rows.take i' ++ rows.drop j' ++ List.replicate (j' - i') [D.int .i64 0])))) E H w' := by
        refine g.put hkk hother hos htp hou hsize (by simp [OBlk.Lies,D.hd]) ?_
        refine ⟨some (⟨E.b k,0,none⟩,c),1,_,rfl,by rw [hv]; simp; omega,?_,int_len1 hR',int_okH hR',fun a c' h=>by cases h; exact ⟨rfl,hno⟩⟩
        refine ⟨by rw [flat_ints hR',List.length_map,rows_len hR',Nat.mul_one],.inr ⟨E.b k,c,_,by simp [D.val,hval],hbase,hheap,by rw [rows_len hR',hzl]; omega,hcm,by rw [hcs',Nat.mul_one],?_⟩⟩
        rw [flat_ints hR',rows_len hR',Nat.mul_one]
        exact putCells_take (by rw [hzl,hcs]; omega)
       have hspec := Mem.set_spec (o' := .arr e' (.slc (some (⟨E.b k,0,none⟩,c)) 1 (rows.take i' ++ rows.drop j' ++ List.replicate (j' - i') [D.int .i64 0]))) g.keys hkk
       have hdel := fun j p=>Mem.del_ne (j := j) (p := p) g.keys hmem
       have g2 : Good C (m.del k) E H w' := by
        refine ⟨g1.below,g1.ext,g1.fresh,g1.cell,fun j o hj=>?_,(g.sub (m.del_sub k)).keys,(g.sub (m.del_sub k)).apart,g1.fix⟩
        have h5 := g.own j o (Mem.del_mem hj)
        refine h5.keep (fun hl2=>hother _ ?_)
        exact g.apart (j,o) (k,_) (Mem.del_mem hj) hmem (hdel j o hj) hl2 (by simp [OBlk.Lies,D.hd])
       have hRn : SRows Int (rows.take i' ++ rows.drop j') (zs.take i' ++ zs.drop j') := rows_app (rows_take hR i') (rows_drop hR j')
       have hln : (rows.take i' ++ rows.drop j').length = zs.length - (j' - i') := by rw [rows_len hRn]; simp; omega
       have hka := E.agree_setV key (E.b k) (some (⟨E.b k,0,none⟩,c),(rows.take i' ++ rows.drop j').length)
       have hbE : (E.setV key (E.b k) (some (⟨E.b k,0,none⟩,c),(rows.take i' ++ rows.drop j').length)).b key = E.b k := by simp [Env.setV]
       have hvE : (E.setV key (E.b k) (some (⟨E.b k,0,none⟩,c),(rows.take i' ++ rows.drop j').length)).v key = (some (⟨E.b k,0,none⟩,c),(rows.take i' ++ rows.drop j').length) := by simp [Env.setV]
       have g3 : Good C ((key,.arr e' (.slc (some (⟨E.b k,0,none⟩,c)) 1 (rows.take i' ++ rows.drop j'))) :: m.del k) (E.setV key (E.b k) (some (⟨E.b k,0,none⟩,c),(rows.take i' ++ rows.drop j').length)) H w' := by
        refine g2.cons (Mem.has_del hk) hka (Below.refl _ _) ?_ (fun _ j p hj hlp=>?_)
        ·refine ⟨some (⟨E.b k,0,none⟩,c),1,_,rfl,by rw [hvE],?_,int_len1 hRn,int_okH hRn,fun a c' h=>by cases h; rw [hbE]; exact ⟨rfl,hno⟩⟩
         refine ⟨by rw [flat_ints hRn,List.length_map,rows_len hRn,Nat.mul_one],.inr ⟨E.b k,c,_,by simp [D.val,hval],hbase,hheap,by rw [hln]; omega,hcm,by rw [hcs',Nat.mul_one],?_⟩⟩
         have h6 := putCells_take (cur := cur) (zs := zs') (by rw [hzl,hcs]; omega)
         rw [Nat.mul_one,hln,flat_ints hRn]
         have h7 := congrArg (List.take (zs.length - (j' - i'))) h6
         rw [List.take_take,Nat.min_eq_left (by omega)] at h7
         rw [h7,← List.map_take,← hzs',List.take_append_of_le_length (by simp; omega),List.take_of_length_le (by simp; omega)]
        ·rw [hbE]
         exact (g.apart (j,p) (k,_) (Mem.del_mem hj) hmem (hdel j p hj) hlp (by simp [OBlk.Lies,D.hd])).symm
       refine ⟨fun _=>.bool false,_,H,?_,hka,HLe.refl _,g3,by simp [SV.Ok],?_⟩
       ·have hden : (SV.vec key).den (E.setV key (E.b k) (some (⟨E.b k,0,none⟩,c),(rows.take i' ++ rows.drop j').length)) = .slice (some ⟨E.b k,0,none⟩) (zs.length - (j' - i')) c := by
         simp only [SV.den,hvE,hval]
         rw [hln]
        exact congrArg _ hden.symm
       ·refine ⟨by rw [hsize]; exact Nat.le_refl _,fun b hb hno'=>hother b (fun e1=>hno' k _ hmem (by simp [OBlk.Lies,D.hd]) e1.symm),fun _ _ _ h=>.inl h,fun q o hq=>?_,fun q o hq hl2=>?_,hos,htp,hou⟩
        ·rcases List.mem_cons.1 hq with hq | hq
         ·exact .inl (congrArg Prod.fst hq)
         ·exact .inr ⟨o,Mem.del_mem hq⟩
        ·rcases List.mem_cons.1 hq with hq | hq
         ·have e1 : q = key := congrArg Prod.fst hq
          subst e1
          rw [hbE]; exact .inr ⟨k,_,hmem,by simp [OBlk.Lies,D.hd],rfl⟩
         ·refine .inr ⟨q,o,Mem.del_mem hq,hl2,?_⟩
          exact (hka.1 q (Mem.has_key hk _ (Mem.del_mem hq)).1).1
    ·cases heq
   ·cases heq
  ·cases heq
 ·trivial
end Sx
end
section
namespace Sx
open Go RowKit

def vCtr (spec : List SV → SpecR) : Ctr := fun args _ m=>match args with
 | [.view k s lo n,x]=>match m.get k with
  | some (.arr _ d)=>match spec [.dat (d.sub lo (lo + n)),x] with
   | .scalar ps v=>match v.flat && x.flat with
    | true=>.val ((d.sz = s ∧ lo + n ≤ d.len) :: ps) v m
    | false=>.bad
   | _=>.bad
  | _=>.bad
 | _=>.bad

theorem vCtr_ro {spec : List SV → SpecR} : CtrRO (vCtr spec) := by
 intro args key m h
 have hb : vCtr spec args key m = .bad := by
  unfold vCtr
  split
  ·split
   ·rename_i hg
    exact (roM_arr h hg).elim
   ·rfl
  ·rfl
 rw [hb]
 trivial

theorem vCtr_ok {P : Program} {f : FuncId} {spec : List SV → SpecR} (h : Law P f spec) : CtrOk P f (vCtr spec) := by
 refine ⟨bodied_spec h.1,fun C E H w args key m g hargs hk hk2=>?_,vCtr_ro⟩
 unfold CallRight vCtr
 split
 ·rename_i r ps v m2 heq
  split at heq
  ·rename_i k s lo n x
   split at heq
   ·rename_i e d hg
    split at heq
    ·rename_i ps1 v1 hs
     split at heq
     ·rename_i hfl
      cases heq
      simp only [Bool.and_eq_true] at hfl
      intro hp
      obtain ⟨p1,p2⟩ := hp _ List.mem_cons_self
      have hp' : ∀ p,p ∈ ps1 → p := fun p hp1=>hp p (List.mem_cons_of_mem _ hp1)
      obtain ⟨H1,hle,g1,hdok,_⟩ := pubR_spec g (.vec k)
      obtain ⟨hd,sz,rows,rfl,hv,_⟩ := g.own k _ (Mem.get_mem hg)
      have hd1 := hdok (D.slc hd sz rows) (by simp [dataOf,hg]) (by simp [SV.Ok])
      have hsub := (sub_ok hd1 (l := lo) (h := lo + n) (by omega) p2).1
      have hx1 : x.Ok H1 := by cases x <;> simp [SV.flat] at hfl <;> simp [SV.Ok]
      have hl := h.2 H1 E [.dat ((D.slc hd sz rows).sub lo (lo + n)),x] ⟨⟨hsub,_,_,_,rfl⟩,hx1,trivial⟩
      rw [hs] at hl
      have hc := hl hp' w g1.cell
      have e1 : SV.denL E [.dat ((D.slc hd sz rows).sub lo (lo + n)),x] = SV.denL E [.view k s lo n,x] := by
       simp only [D.len,D.rows] at p2
       simp only [D.sz] at p1
       subst p1
       have e2 : ((rows.drop lo).take n).length = n := by rw [List.length_take,List.length_drop]; omega
       simp only [SV.denL,SV.den,hv,D.sub,D.val,D.hd,D.rows,D.sz,Nat.add_sub_cancel_left,e2]
       rfl
      rw [e1] at hc
      refine Calls.mono hc fun e w' ⟨u,H',he,ha,hu⟩=>?_
      refine ⟨E,H,by rw [he,hu],Agree.refl _ _,HLe.refl _,g.call ha.below (HLe.refl _) (fun _ _ _ h=>.inl h) (fun b o v hb=>ha.cell b o v (ha.le b o v (hle b o v hb))),?_⟩
      refine ⟨by cases v <;> simp [SV.flat] at hfl <;> simp [SV.Ok],ha.below.size,fun b hb _=>ha.below.block b hb,fun _ _ _ h=>.inl h,fun k o h=>.inr ⟨o,h⟩,fun k o h hl=>.inr ⟨k,o,h,hl,rfl⟩,ha.below.os,ha.below.tape,ha.below.output⟩
     ·cases heq
    ·cases heq
   ·cases heq
  ·cases heq
 ·rename_i r ps g heq
  split at heq
  ·split at heq
   ·split at heq
    ·split at heq <;> cases heq
    ·cases heq
   ·cases heq
  ·cases heq
 ·trivial
def lCtr (spec : OSpec) : Ctr := fun args key m =>
 match spec (closeL (pubsR (leavesL args) m) args) with
 | some (ps,e,mk)=>.all ps fun hs=>(.vec key,(key,.arr e (mk (hs 0))) :: m)
 | none=>.bad

theorem lCtr_ro {spec : OSpec} : CtrRO (lCtr spec) := by
 intro args key m h
 unfold lCtr
 cases hs : spec (closeL (pubsR (leavesL args) m) args) with
 | none=>trivial
 | some x =>
  obtain ⟨ps,e,mk⟩ := x
  simp only
  intro hs hk
  have := keysEq_len hk
  simp at this

theorem lCtr_ok {P : Program} {f : FuncId} {spec : OSpec} (h : OLaw P f spec) (hfl : ∀ args ps e mk,spec args = some (ps,e,mk) → ∀ (hd : D) (H : HV) r,r ∈ (mk hd).rows → ∀ x,x ∈ r → D.Ok H x) : CtrOk P f (lCtr spec) := by
 refine ⟨bodied_spec h.1,fun C E H w args key m g hargs hk hk2=>?_,lCtr_ro⟩
 obtain ⟨H1,hle,g1,nw⟩ := pubsR_spec (leavesL args) g
 obtain ⟨e1,e2⟩ := closeL_spec g1 args (SV.OkL.mono hle _ hargs)
 have hl := h.2 H1 E _ e2
 unfold CallRight lCtr
 cases hs : spec (closeL (pubsR (leavesL args) m) args) with
 | none=>simp
 | some x =>
  obtain ⟨ps,e,mk⟩ := x
  have hfl := hfl _ ps e mk hs
  simp only [hs] at hl ⊢
  intro hp
  have hc := hl hp w g1.cell
  rw [e1] at hc
  refine Calls.mono hc fun r w' ⟨u,hr,E1,H',k,hd,hu,g2⟩=>?_
  have hHH : HLe H H' := hle.trans g2.ext
  have g3 := g.call g2.below (HLe.refl _) (fun _ _ _ h=>.inl h) (fun b o v hb=>g2.cell b o v (hHH b o v hb))
  have o2 := g2.own k _ (List.mem_singleton.2 rfl)
  have ha := E.agree_setV key (E1.b k) (E1.v k)
  have hbE : (E.setV key (E1.b k) (E1.v k)).b key = E1.b k := by simp [Env.setV]
  have hvE : (E.setV key (E1.b k) (E1.v k)).v key = E1.v k := by simp [Env.setV]
  obtain ⟨hh,sz,rows,q1,q2,q3,q4,q5,q6⟩ := o2
  have hlow : OBlk.Lies (.arr e (mk hd)) → w.heap.size ≤ E1.b k := by
   intro hl
   rw [q1] at hl q3
   simp only [OBlk.Lies,D.hd] at hl
   cases hh with
   | none=>exact absurd rfl hl
   | some ac =>
    obtain ⟨a,c⟩ := ac
    obtain ⟨_,h3⟩ := q3
    have hq6 := (q6 a c rfl).1
    rcases h3 with ⟨h3,_⟩ | ⟨g',cap,cur,h3,h4,_⟩
    ·simp [D.val,hval] at h3
    ·simp only [D.val,hval,Value.slice.injEq,Option.some.injEq] at h3
     have h5 : E1.b k = g' := by have := h3.1; rw [hq6] at this; exact congrArg Addr.block this
     rw [h5]; exact h4
  have hnone : ∀ b,(∀ o,H' b o = none) → ∀ o,H b o = none := fun b hb o=>by
   cases hx : H b o with
   | none=>rfl
   | some v=>have := hHH b o v hx; rw [hb o] at this; cases this
  have g4 : Good C ((key,.arr e (mk hd)) :: m) (E.setV key (E1.b k) (E1.v k)) H w' := by
   refine g3.cons hk ha (Below.refl _ _) ⟨hh,sz,rows,q1,by rw [hvE]; exact q2,ownsRow_mono q3 g.below.size,q4,fun r hr x hx=>hfl hd H r (by rw [q1]; exact hr) x hx,fun a c hac=>?_⟩ (fun hl j p hj hlp=>?_)
   ·rw [hbE]; exact ⟨(q6 a c hac).1,hnone _ (q6 a c hac).2⟩
   ·rw [hbE]
    have h1 := hlow hl
    have h2 := (g.own j p hj).lt hlp
    omega
  refine ⟨fun _=>hd,E.setV key (E1.b k) (E1.v k),H,by rw [hr,hu]; simp [SV.den,hvE],ha,HLe.refl _,g4,by simp [SV.Ok],?_⟩
  refine ⟨g2.below.size,fun b hb _=>g2.below.block b hb,fun b x v hx=>.inl hx,fun j o hj=>?_,fun j o hj hl=>?_,g2.below.os,g2.below.tape,g2.below.output⟩
  ·rcases List.mem_cons.1 hj with hj | hj
   ·exact Or.inl (congrArg Prod.fst hj)
   ·exact .inr ⟨o,hj⟩
  ·rcases List.mem_cons.1 hj with hj | hj
   ·have e1 : j = key := congrArg Prod.fst hj
    have e2 : o = .arr e (mk hd) := congrArg Prod.snd hj
    subst e1; subst e2
    rw [hbE]; exact .inl (hlow hl)
   ·refine .inr ⟨j,o,hj,hl,?_⟩
    exact (ha.1 j (Mem.has_key hk _ hj).1).1
def shK (B k : Nat) : Nat := match Nat.ble PIN k with
 | true=>k
 | false=>k + B
def shiftC (B : Nat) (c : Conf) : Option Conf := match c.allKeys.all fun k=>Nat.ble PIN k || Nat.blt (k + B) PIN with
 | true=>some (renWith (shK B) c)
 | false=>none
theorem shift_to {P : Program} {C : Ctx} {R : Value → World → Prop} (B : Nat) {c : Conf} (c' : Conf) (hc : shiftC B c = some c') (h : Runs P C c' R) : Runs P C c R := by
 unfold shiftC at hc
 split at hc
 ·rename_i hchk
  cases hc
  simp only [List.all_eq_true,Bool.or_eq_true] at hchk
  intro E H w g ok
  have all : ∀ k,k ∈ SV.keysL c.top.tmps ∨ (∃ f,f ∈ c.rest ∧ k ∈ SV.keysL f.tmps) ∨ k ∈ Mem.named c.mem → k ∈ c.allKeys := fun k hk=>by
   rcases hk with hk | ⟨f,hf,hk⟩ | hk
   ·exact meet_mem (.inl (walkK_mem (meet_mem (.inr (List.mem_append_left _ hk)))))
   ·exact meet_mem (.inl (walkK_mem (meet_mem (.inr (List.mem_append_right _ (List.mem_flatMap.2 ⟨f,hf,hk⟩))))))
   ·exact meet_mem (.inr hk)
  let E' : Env := ⟨fun i=>if PIN ≤ i then E.b i else E.b (i - B),fun i=>if PIN ≤ i then E.v i else E.v (i - B),E.j⟩
  let ρ : Nat → Nat := shK B
  have cas : ∀ k,k ∈ c.allKeys → (PIN ≤ k ∧ ρ k = k) ∨ (k < PIN ∧ ρ k < PIN ∧ ρ k = k + B) := fun k hk=>by
   rcases Nat.lt_or_ge k PIN with hl | hl
   ·right
    have hb : Nat.ble PIN k = false := by
     cases hb : Nat.ble PIN k with
     | false=>rfl
     | true=>have := Nat.le_of_ble_eq_true hb; omega
    have e : ρ k = k + B := by simp only [ρ,shK,hb]
    rcases hchk k hk with h1 | h1
    ·rw [hb] at h1; cases h1
    ·have : k + B < PIN := by simpa [Nat.blt_eq] using h1
     exact ⟨hl,by omega,e⟩
   ·exact .inl ⟨hl,by simp only [ρ,shK,Nat.ble_eq_true_of_le hl]⟩
  have ren : ∀ k,k ∈ c.allKeys → Ren ρ E E' k := fun k hk=>by
   rcases cas k hk with ⟨h1,h2⟩ | ⟨h1,h2,h3⟩
   ·simp only [Ren,E',h2,if_pos h1,and_self]
   ·have h4 : ¬PIN ≤ k + B := by omega
    simp only [Ren,E',h3,if_neg h4,Nat.add_sub_cancel,and_self]
  have inj : ∀ k j,k ∈ c.allKeys → j ∈ c.allKeys → ρ k = ρ j → k = j := fun k j hk hj e=>by
   rcases cas k hk with ⟨h1,h2⟩ | ⟨h1,h2,h3⟩ <;> rcases cas j hj with ⟨g1,g2⟩ | ⟨g1,g2,g3⟩ <;> omega
  have named : ∀ k o,(k,o) ∈ c.mem → k ∈ c.allKeys ∧ ∀ j,j ∈ o.keys → j ∈ c.allKeys := fun k o hm=>by
   refine ⟨all k (.inr (.inr ?_)),fun j hj=>all j (.inr (.inr ?_))⟩
   ·simp only [Mem.named,List.mem_flatMap]; exact ⟨_,hm,List.mem_cons_self⟩
   ·simp only [Mem.named,List.mem_flatMap]; exact ⟨_,hm,List.mem_cons_of_mem _ hj⟩
  have gd : Good C (c.mem.map fun e=>(ρ e.1,e.2.ren ρ)) E' H w := by
   refine ⟨g.below,g.ext,g.fresh,g.cell,fun k o hko=>?_,?_,fun x y hx hy hne hlx hly=>?_,g.fix.keep (fun k hk=>by simp only [E',if_pos hk]) fun _ _ h _=>h⟩
   ·obtain ⟨e,he,h1⟩ := List.mem_map.1 hko
    simp only [Prod.mk.injEq] at h1
    obtain ⟨rfl,rfl⟩ := h1
    obtain ⟨n1,n2⟩ := named e.1 e.2 he
    exact (g.own e.1 e.2 he).ren (E' := E') (show E'.j = E.j from rfl) (ren _ n1) (fun j hj=>ren j (n2 j hj)) (fun es _ hk=>keysOk_ren hk)
   ·rw [List.pairwise_map]
    refine g.keys.imp_of_mem ?_
    intro a b ha hb hne e
    exact hne (inj _ _ (named a.1 a.2 ha).1 (named b.1 b.2 hb).1 e)
   ·obtain ⟨a,ha,h1⟩ := List.mem_map.1 hx
    obtain ⟨b,hb,h2⟩ := List.mem_map.1 hy
    subst h1; subst h2
    simp only at hne hlx hly ⊢
    rw [(ren a.1 (named a.1 a.2 ha).1).1,(ren b.1 (named b.1 b.2 hb).1).1]
    have lies : ∀ o : OBlk,(o.ren ρ).Lies → o.Lies := fun o h=>by cases o <;> exact h
    exact g.apart a b ha hb (fun e=>hne (by rw [e])) (lies _ hlx) (lies _ hly)
  have hr := h E' H w gd ⟨SV.okL_ren _ ok.1,fun f hf=>by
   obtain ⟨f',hf',rfl⟩ := List.mem_map.1 hf
   exact SV.okL_ren _ (ok.2 f' hf')⟩
  have e1 : (renWith ρ c).top.den E' = c.top.den E := by
   simp only [renWith,SFrm.den]
   rw [SV.denL_ren (E := E) (E' := E') rfl _ fun k hk=>ren k (all k (.inl hk))]
  have e2 : (renWith ρ c).rest.map (SFrm.den E') = c.rest.map (SFrm.den E) := by
   simp only [renWith,List.map_map]
   apply List.map_congr_left
   intro f hf
   simp only [Function.comp,SFrm.den]
   rw [SV.denL_ren (E := E) (E' := E') rfl _ fun k hk=>ren k (all k (.inr (.inl ⟨f,hf,hk⟩)))]
  rw [e1,e2] at hr
  exact hr
 ·cases hc
def spOwnI {β : Type} (r : Rd β) (e : TypeId) (ps : β → List Prop) (l : β → List Int) : OSpec := fun args=>match r.read args with
 | some b=>some (ps b,e,fun h=>.slc h.hd 1 ((l b).map fun n=>[.int .i64 n]))
 | none=>none
theorem spOwnI_flat {β : Type} {r : Rd β} {e : TypeId} {ps : β → List Prop} {l : β → List Int} : ∀ args ps' e' mk,spOwnI r e ps l args = some (ps',e',mk) → ∀ (hd : D) (H : HV) row,row ∈ (mk hd).rows → ∀ x,x ∈ row → D.Ok H x := by
 intro args ps' e' mk h hd H row hr x hx
 unfold spOwnI at h
 split at h
 ·cases h
  obtain ⟨n,_,rfl⟩ := List.mem_map.1 hr
  rw [List.mem_singleton.1 hx]
  exact .int _ _
 ·cases h
theorem olaw_ints {P : Program} {f : FuncId} {β : Type} {r : Rd β} {e : TypeId} {ps : β → List Prop} {l : β → List Int} (hb : Bodied P f = true)
  (h : ∀ (H : HV) (w : World) (b : β),SV.OkL H (r.canon b) → (∀ p,p ∈ ps b → p) → Runs P ⟨w,H⟩ (entry P f (r.canon b)) (OwnR w H e fun h=>.slc h.hd 1 ((l b).map fun n=>[.int .i64 n]))) : OLaw P f (spOwnI r e ps l) := by
 refine ⟨hb,fun H E args hargs=>?_⟩
 unfold spOwnI
 cases hr : r.read args with
 | none=>trivial
 | some b =>
  simp only
  intro hp w hw
  obtain ⟨h1,h2⟩ := r.right H E args b hr hargs
  rw [h1]
  exact calls_of hb h2 E hw (h H w b h2 hp)
theorem ints_rows {d : D} (h : d.Is Int) (hz : d.sz = 1) {l : List Int} (hl : d.to Int = l) : d = .slc d.hd 1 (l.map fun n=>[.int .i64 n]) := by
 obtain ⟨a,b,c,rfl,_,h2⟩ := h
 simp only [D.sz] at hz
 subst hz
 simp only [D.hd,D.slc.injEq,true_and]
 rw [← hl]
 simp only [D.to,D.rows,List.map_map]
 conv=>lhs; rw [← List.map_id c]
 refine List.map_congr_left fun r hr=>?_
 obtain ⟨n,rfl⟩ := h2 r hr
 rfl
end Sx
end
section
open Go
namespace Sx
def rdAk : Rd1 D where
 read x := match x with
  | .agg [a]=>rdD.read a
  | _=>none
 canon d := .agg [.dat d]
 right H E x b h hok := by
  split at h
  ·obtain ⟨i1,i2⟩ := rdD.right H E _ _ h hok.1
   refine ⟨?_,i2,trivial⟩
   simp only [SV.den,SV.denL,i1]
   rfl
  ·cases h
def unackN (l : List Bool) (p : Nat) : List Int := filtN p fun i=>!l.getD i.toNat false
theorem apq_need {q : D} {a : Hd} {z : Int} (hz : q.sz = 1) (hl : q.len ≤ 1048576) : q.sz = 1 ∧ (D.slc a 1 [[D.int .i64 z]]).Fits 1 ∧ (q.len + (D.slc a 1 [[D.int .i64 z]]).len) * 8 ≤ 140737488355328 ∧ q.len + (D.slc a 1 [[D.int .i64 z]]).len ≤ 9223372036854775807 :=
 ⟨hz,.inr rfl,by simp only [len_slc,List.length_cons,List.length_nil]; omega,by simp only [len_slc,List.length_cons,List.length_nil]; omega⟩
theorem apq_is {q : D} {a b : Hd} {z : Int} {l : List Int} (hq : q.Is Int) (hto : q.to Int = l) : (D.slc b 1 (List.append q.rows (D.slc a 1 [[D.int .i64 z]]).rows)).Is Int ∧ (D.slc b 1 (List.append q.rows (D.slc a 1 [[D.int .i64 z]]).rows)).sz = 1 ∧ (D.slc b 1 (List.append q.rows (D.slc a 1 [[D.int .i64 z]]).rows)).to Int = l ++ [z] := by
 obtain ⟨i1,i2⟩ := is_of (h := b) (s := 1) rfl (rows_app (rows_of hq) (int_one z))
 exact ⟨i1,rfl,i2.trans (by rw [hto])⟩
theorem sub_is {α : Type} [Codec α] {d : D} (h : d.Is α) (p : Nat) : (d.sub 0 p).Is α ∧ (d.sub 0 p).to α = (d.to α).take p := by
 obtain ⟨a,b,c,rfl,h1,h2⟩ := h
 refine ⟨⟨_,_,_,rfl,?_,fun r hr=>h2 r (List.mem_of_mem_drop (List.mem_of_mem_take hr))⟩,?_⟩
 ·rcases h1 with rfl | h1
  ·left; simp [D.rows]
  ·exact .inr h1
 ·simp [D.sub,D.to,D.rows,List.map_take]
noncomputable def spUna (e : TypeId) : OSpec := spOwnI (rdAk.two rdInt) e (fun x=>[x.1.Is Bool ∧ 0 ≤ x.2 ∧ x.2 ≤ (x.1.len : Int) ∧ x.1.len ≤ 1048576]) fun x=>unackN (x.1.to Bool) x.2.toNat
end Sx
end
section
open Go
namespace Sx
def recoverG (g : Gr) (du : List Int) : Gr × List Int × Int :=
 if openErr g ≠ 0 then (zGr,[],openErr g)
 else if du.length > g.hist.writes.length then (zGr,[],27)
 else if ((ackd g.hist.writes.length g.hist.events).drop du.length).any (fun y=>decide (true = y)) = true then (zGr,[],27)
 else if du ≠ firstN du.length then (zGr,[],27)
 else (⟨⟨g.hist.sizes,g.hist.writes.take du.length,g.hist.events.filter (fun x=>!decide (x.write ≥ (du.length : Int))) ++ (unackN (ackd g.hist.writes.length g.hist.events) du.length).map (Ev.mk 1)⟩,[],[],false⟩,unackN (ackd g.hist.writes.length g.hist.events) du.length,0)
theorem recoverG_e1 {g : Gr} {du : List Int} (h : openErr g ≠ 0) : recoverG g du = (zGr,[],openErr g) := by unfold recoverG; rw [if_pos h]
theorem recoverG_e2 {g : Gr} {du : List Int} (h : openErr g = 0) (h2 : du.length > g.hist.writes.length) : recoverG g du = (zGr,[],27) := by unfold recoverG; rw [if_neg (by simp [h]),if_pos h2]
theorem recoverG_e3 {g : Gr} {du : List Int} (h : openErr g = 0) (h2 : ¬du.length > g.hist.writes.length) (h3 : ((ackd g.hist.writes.length g.hist.events).drop du.length).any (fun y=>decide (true = y)) = true) : recoverG g du = (zGr,[],27) := by
 unfold recoverG; rw [if_neg (by simp [h]),if_neg h2,if_pos h3]
theorem recoverG_e4 {g : Gr} {du : List Int} (h : openErr g = 0) (h2 : ¬du.length > g.hist.writes.length) (h3 : ((ackd g.hist.writes.length g.hist.events).drop du.length).any (fun y=>decide (true = y)) = false) (h4 : du ≠ firstN du.length) : recoverG g du = (zGr,[],27) := by
 unfold recoverG; rw [if_neg (by simp [h]),if_neg h2,if_neg (by rw [h3]; exact Bool.false_ne_true),if_pos h4]
theorem recoverG_ok {g : Gr} {du : List Int} (h : openErr g = 0) (h2 : ¬du.length > g.hist.writes.length) (h3 : ((ackd g.hist.writes.length g.hist.events).drop du.length).any (fun y=>decide (true = y)) = false) (h4 : du = firstN du.length) :
  recoverG g du = ((⟨⟨g.hist.sizes,g.hist.writes.take du.length,g.hist.events.filter (fun x=>!decide (x.write ≥ (du.length : Int))) ++ (unackN (ackd g.hist.writes.length g.hist.events) du.length).map (Ev.mk 1)⟩,[],[],false⟩ : Gr),unackN (ackd g.hist.writes.length g.hist.events) du.length,(0 : Int)) := by
 unfold recoverG; rw [if_neg (by simp [h]),if_neg h2,if_neg (by rw [h3]; exact Bool.false_ne_true),if_neg (by simpa using h4)]
noncomputable def spRecG (x : GrD × D) : SpecR := .data [x.1.Right ∧ x.2.Is Int ∧ x.2.len ≤ 1048576] fun ds=>.tup [grSV ds (recoverG x.1.gr (x.2.to Int)).1,.dat ((ds 5).like (recoverG x.1.gr (x.2.to Int)).2.1),.int .i64 (recoverG x.1.gr (x.2.to Int)).2.2]
end Sx
end
section
open Go
namespace Sx
theorem cntI_from (n : Int) : ∀ (l : List Int) (k : Nat),l.foldl (fun k x=>if x = n then k + 1 else k) k = k + cntI l n := by
 intro l
 unfold cntI
 induction l with
 | nil=>intro k; rfl
 | cons x r ih =>
  intro k
  simp only [List.foldl_cons]
  by_cases h : x = n
  ·simp only [if_pos h]; rw [ih (k + 1),ih (0 + 1)]; omega
  ·simp only [if_neg h]; rw [ih k]
theorem cntI_cons (x : Int) (l : List Int) (n : Int) : cntI (x :: l) n = (if x = n then 1 else 0) + cntI l n := by
 have := cntI_from n (x :: l) 0
 rw [List.foldl_cons,cntI_from] at this
 by_cases h : x = n
 ·rw [if_pos h] at this ⊢; omega
 ·rw [if_neg h] at this ⊢; omega
theorem cntI_app (a b : List Int) (n : Int) : cntI (a ++ b) n = cntI a n + cntI b n := by
 have := cntI_from n (a ++ b) 0
 rw [List.foldl_append,cntI_from,cntI_from] at this
 omega
theorem cntI_pos {l : List Int} {n : Int} : 0 < cntI l n ↔ n ∈ l := by
 induction l with
 | nil=>simp [cntI]
 | cons x r ih =>
  rw [cntI_cons,List.mem_cons]
  by_cases h : x = n
  ·rw [if_pos h]; exact ⟨fun _=>.inl h.symm,fun _=>by omega⟩
  ·rw [if_neg h]
   have h' : ¬n = x := fun e=>h e.symm
   simp only [h',false_or,← ih]; omega
theorem any_false {s : List Bool} : (s.any fun y=>decide (false = y)) = false ↔ ∀ i : Nat,i < s.length → s.getD i false = true := by
 rw [List.any_eq_false]
 constructor
 ·intro h i hi
  have := h s[i] (List.getElem_mem hi)
  rw [List.getD_eq_getElem?_getD,List.getElem?_eq_getElem hi]
  cases hs : s[i] with
  | true=>rfl
  | false=>rw [hs] at this; simp at this
 ·intro h y hy
  obtain ⟨i,hi,rfl⟩ := List.getElem_of_mem hy
  have := h i hi
  rw [List.getD_eq_getElem?_getD,List.getElem?_eq_getElem hi] at this
  simp only [Option.getD_some] at this
  rw [this]; simp
theorem getD_setB {s : List Bool} {w i : Nat} (hw : w < s.length) : (s.set w true).getD i false = if w = i then true else s.getD i false := by
 rw [List.getD_eq_getElem?_getD,List.getD_eq_getElem?_getD,List.getElem?_set]
 by_cases h : w = i
 ·subst h; simp [hw]
 ·rw [if_neg h,if_neg h]
theorem mark_iff : ∀ (l : List Int) (s : List Bool),(∃ s',markAll l s = some s' ∧ (s'.any fun y=>decide (false = y)) = false) ↔
  (∀ w,w ∈ l → 0 ≤ w ∧ w < (s.length : Int)) ∧ ∀ i : Nat,i < s.length → cntI l (i : Int) + (if s.getD i false = true then 1 else 0) = 1
 | [],s=>by
  simp only [markAll,Option.some.injEq,exists_eq_left',any_false,List.not_mem_nil,false_implies,implies_true,true_and]
  constructor
  ·intro h i hi; rw [if_pos (h i hi)]; rfl
  ·intro h i hi
   have := h i hi
   split at this
   ·assumption
   ·exact absurd this (by simp [cntI])
 | w :: l,s=>by
  by_cases h1 : w < 0 ∨ w ≥ s.length
  ·rw [mark_out h1]
   constructor
   ·rintro ⟨_,h,_⟩; cases h
   ·rintro ⟨h,_⟩; have := h w List.mem_cons_self; omega
  ·obtain ⟨x,rfl⟩ := Int.eq_ofNat_of_zero_le (show 0 ≤ w by omega)
   have hx : x < s.length := by omega
   cases h2 : s.getD x false with
   | true =>
    rw [mark_hit (by simpa using h2)]
    constructor
    ·rintro ⟨_,h,_⟩; cases h
    ·rintro ⟨_,h⟩
     have := h x hx
     rw [cntI_cons,if_pos rfl,if_pos h2] at this; omega
   | false =>
    rw [mark_go h1 (by simpa using h2),mark_iff l]
    simp only [Int.toNat_natCast,List.length_set,List.mem_cons]
    constructor
    ·rintro ⟨h,h'⟩
     refine ⟨fun w hw=>?_,fun i hi=>?_⟩
     ·rcases hw with rfl | hw
      ·omega
      ·exact h w hw
     ·have := h' i hi
      simp only [getD_setB hx] at this
      rw [cntI_cons]
      by_cases e : x = i
      ·subst e; simp only [if_pos] at this; rw [if_pos rfl,h2]; simp; simpa using this
      ·simp only [if_neg e] at this
       rw [if_neg (by omega),Nat.zero_add]; exact this
    ·rintro ⟨h,h'⟩
     refine ⟨fun w hw=>h w (.inr hw),fun i hi=>?_⟩
     have := h' i hi
     simp only [getD_setB hx]
     rw [cntI_cons] at this
     by_cases e : x = i
     ·subst e; rw [if_pos rfl,h2] at this; simp at this; simp [this]
     ·simp only [if_neg e]
      rw [if_neg (by omega),Nat.zero_add] at this; exact this
theorem divided_iff (g : Gr) : divided g = true ↔ asc g.waiting = true ∧ (∀ w,w ∈ g.waiting ++ g.held → 0 ≤ w ∧ w < (g.hist.writes.length : Int)) ∧
  ∀ i : Nat,i < g.hist.writes.length → cntI (g.waiting ++ g.held) (i : Int) + (if (ackd g.hist.writes.length g.hist.events).getD i false = true then 1 else 0) = 1 := by
 have h := mark_iff (g.waiting ++ g.held) (ackd g.hist.writes.length g.hist.events)
 rw [ackd_len] at h
 rw [← h]
 unfold divided
 rw [Bool.and_eq_true]
 refine and_congr Iff.rfl ?_
 cases markAll (g.waiting ++ g.held) (ackd g.hist.writes.length g.hist.events) with
 | none=>simp
 | some s=>simp
theorem ackd_from : ∀ (l : List Ev) (a : List Bool),(∀ e,e ∈ l → 0 ≤ e.write) → ∀ i : Nat,i < a.length → ((l.foldl ackStep a).getD i false = true ↔ a.getD i false = true ∨ (⟨1,(i : Int)⟩ : Ev) ∈ l)
 | [],a,_,i,_=>by simp
 | e :: l,a,h,i,hi=>by
  have he := h e List.mem_cons_self
  rw [List.foldl_cons,ackd_from l _ (fun x hx=>h x (List.mem_cons_of_mem _ hx)) i (by rw [ackStep_len]; exact hi),List.mem_cons]
  unfold ackStep
  obtain ⟨k,w⟩ := e
  simp only at he ⊢
  by_cases hk : k = 1
  ·subst hk
   rw [if_pos rfl]
   by_cases hw : w.toNat < a.length
   ·rw [getD_setB hw]
    by_cases hi : w.toNat = i
    ·rw [if_pos hi]
     have : w = (i : Int) := by omega
     subst this; simp
    ·rw [if_neg hi]
     have : ¬((⟨1,(i : Int)⟩ : Ev) = ⟨1,w⟩) := by intro e; injection e with _ e; omega
     simp [this]
   ·rw [List.set_eq_of_length_le (by omega)]
    have : ¬((⟨1,(i : Int)⟩ : Ev) = ⟨1,w⟩) := by intro e; injection e with _ e; omega
    simp [this]
  ·rw [if_neg hk]
   have : ¬((⟨1,(i : Int)⟩ : Ev) = ⟨k,w⟩) := by intro e; injection e with e _; exact hk e.symm
   simp [this]
theorem ackd_mem {n : Nat} {l : List Ev} (h : ∀ e,e ∈ l → 0 ≤ e.write) {i : Nat} (hi : i < n) : (ackd n l).getD i false = true ↔ (⟨1,(i : Int)⟩ : Ev) ∈ l := by
 unfold ackd
 rw [ackd_from l _ h i (by simpa using hi)]
 have : (List.replicate n false).getD i false = false := by
  rw [List.getD_eq_getElem?_getD]; simp [List.getElem?_replicate,hi]
 rw [this]; simp
theorem atEv_mem {l : List Ev} {e : Ev} : atEv l e ≥ 0 ↔ e ∈ l := by
 rcases atEv_cases l e with ⟨h1,h2⟩ | ⟨h1,h2,h3⟩
 ·rw [h1]; simp [h2]
 ·simp [h3]; exact h1
theorem checkH_in {h : Hist} (hc : (checkH h).1 = 0) : ∀ e,e ∈ h.events → (e.kind = 0 ∨ e.kind = 1) ∧ 0 ≤ e.write ∧ e.write < (h.writes.length : Int) := fun e he=>by
 obtain ⟨t,hl,_⟩ := checkH_ok hc
 have := t.kind e he
 rwa [hl] at this
theorem ackd_at {h : Hist} (hc : (checkH h).1 = 0) {i : Nat} (hi : i < h.writes.length) : (ackd h.writes.length h.events).getD i false = decide (atEv h.events ⟨1,(i : Int)⟩ ≥ 0) := by
 have h1 := ackd_mem (fun e he=>(checkH_in hc e he).2.1) hi
 rw [← atEv_mem] at h1
 rw [Bool.eq_iff_iff,h1,decide_eq_true_eq]
theorem asc_pair {l : List Int} (h : asc l = true) : l.Pairwise (· < ·) := by
 rw [List.pairwise_iff_getElem]
 intro i j hi hj hij
 obtain ⟨d,rfl⟩ := Nat.exists_eq_add_of_lt hij
 clear hij
 have h := (asc_iff l).1 h
 induction d with
 | zero=>have := h i hj; rwa [getD_lt hi,getD_lt hj] at this
 | succ d ih =>
  have h1 := ih (by omega)
  have h2 := h (i + d + 1) (by omega)
  rw [getD_lt (show i + d + 1 < l.length by omega),getD_lt (show i + d + 1 + 1 < l.length by omega)] at h2
  have e : i + (d + 1) + 1 = i + d + 1 + 1 := by omega
  simp only [e]; omega
theorem setH_iff {l : List Int} {n : Int} : setH l n = true ↔ asc l = true ∧ ∀ w,w ∈ l → 0 ≤ w ∧ w < n := by
 constructor
 ·intro h
  refine ⟨(asc_iff l).2 fun i hi=>setUp_lt h (Nat.lt_succ_self i) hi,fun w hw=>?_⟩
  obtain ⟨k,hk,rfl⟩ := List.getElem_of_mem hw
  exact setH_in h hk
 ·rintro ⟨h1,h2⟩
  exact setUp_of (asc_pair h1) h2 _ (Nat.le_refl _)
def refErrG (g : Gr) : Int :=
 if (checkH g.hist).1 ≠ 0 then (checkH g.hist).1
 else if setH g.waiting g.hist.writes.length = false then 3
 else if (g.held.all fun w=>decide (0 ≤ w) && decide (w < (g.hist.writes.length : Int))) = false then 3
 else if ((List.range g.hist.writes.length).all fun i=>decide (cntI g.waiting (i : Int) + cntI g.held (i : Int) = if atEv g.hist.events ⟨1,(i : Int)⟩ ≥ 0 then 0 else 1)) = false then 3
 else if g.held.length > 0 ∧ g.frozen = false then 12 else 0
theorem openErr_ref (g : Gr) : openErr g = refErrG g := by
 unfold openErr refErrG
 by_cases hc : (checkH g.hist).1 ≠ 0
 ·rw [if_pos hc,if_pos hc]
 rw [if_neg hc,if_neg hc]
 have hc : (checkH g.hist).1 = 0 := by simpa using hc
 have key : divided g = true ↔ setH g.waiting g.hist.writes.length = true ∧ (g.held.all fun w=>decide (0 ≤ w) && decide (w < (g.hist.writes.length : Int))) = true ∧
   ((List.range g.hist.writes.length).all fun i=>decide (cntI g.waiting (i : Int) + cntI g.held (i : Int) = if atEv g.hist.events ⟨1,(i : Int)⟩ ≥ 0 then 0 else 1)) = true := by
  rw [divided_iff,setH_iff]
  simp only [List.all_eq_true,Bool.and_eq_true,decide_eq_true_eq,List.mem_range,List.mem_append]
  have hx : (∀ i : Nat,i < g.hist.writes.length → cntI (g.waiting ++ g.held) (i : Int) + (if (ackd g.hist.writes.length g.hist.events).getD i false = true then 1 else 0) = 1) ↔
    ∀ i : Nat,i < g.hist.writes.length → cntI g.waiting (i : Int) + cntI g.held (i : Int) = if atEv g.hist.events ⟨1,(i : Int)⟩ ≥ 0 then 0 else 1 := by
   refine forall_congr' fun i=>forall_congr' fun hi=>?_
   rw [cntI_app,ackd_at hc hi]
   simp only [decide_eq_true_eq]
   by_cases h : atEv g.hist.events ⟨1,(i : Int)⟩ ≥ 0
   ·rw [if_pos h,if_pos h]; omega
   ·rw [if_neg h,if_neg h]; omega
  rw [hx]
  constructor
  ·rintro ⟨a,b,c⟩; exact ⟨⟨a,fun w hw=>b w (.inl hw)⟩,fun w hw=>b w (.inr hw),c⟩
  ·rintro ⟨⟨a,b⟩,c,d⟩; exact ⟨a,fun w hw=>hw.elim (b w) (c w),d⟩
 generalize divided g = v at key ⊢
 generalize setH g.waiting g.hist.writes.length = v1 at key ⊢
 generalize (g.held.all fun w=>decide (0 ≤ w) && decide (w < (g.hist.writes.length : Int))) = v2 at key ⊢
 generalize ((List.range g.hist.writes.length).all fun i=>decide (cntI g.waiting (i : Int) + cntI g.held (i : Int) = if atEv g.hist.events ⟨1,(i : Int)⟩ ≥ 0 then 0 else 1)) = v3 at key ⊢
 cases v <;> cases v1 <;> cases v2 <;> cases v3 <;> simp at key ⊢
end Sx
end
section
open Go
namespace Sx
theorem runEv_more {n m : Nat} {l : List Ev} : ∀ j,(runEv n l j).1 = 0 → (runEv n l j).2.issued.length ≤ m → runEv m l j = runEv n l j
 | 0,_,_=>rfl
 | j + 1,h0,hm=>by
  unfold runEv at h0 hm ⊢
  split at h0
  ·rename_i h1; exact absurd h0 h1
  ·rename_i h1
   rw [if_neg h1] at hm
   have h1' : (runEv n l j).1 = 0 := by simpa using h1
   cases e : l[j]? with
   | none =>
    rw [e] at h0 hm
    simp only at h0 hm
    have ih := runEv_more j h1' hm
    rw [ih,if_neg h1]
   | some x =>
    rw [e] at h0 hm
    simp only at h0 hm
    have hle := evStep_len h0
    have ih := runEv_more (m := m) j h1' (by omega)
    rw [ih,if_neg h1,if_neg h1]
    simp only
    unfold evStep at h0 hm hle ⊢
    split at h0
    ·rename_i hk
     simp only [if_pos hk] at hm hle ⊢
     split at h0
     ·exact absurd h0 (by simp)
     ·rename_i hc
      rw [if_neg hc] at hm ⊢
      simp only [List.length_append,List.length_singleton] at hm
      rw [if_neg (by omega)]
    ·rename_i hk
     simp only [if_neg hk]
theorem runEv_take {n : Nat} {l : List Ev} {k : Nat} (hk : k ≤ l.length) : ∀ j,j ≤ k → runEv n (l.take k) j = runEv n l j
 | 0,_=>rfl
 | j + 1,hj=>by
  unfold runEv
  rw [runEv_take hk j (by omega)]
  rw [List.getElem?_take_of_lt (by omega)]
theorem runEv_app {n : Nat} {l : List Ev} {e : Ev} (h0 : (runEv n l l.length).1 = 0) : runEv n (l ++ [e]) (l ++ [e]).length = evStep n l.length (runEv n l l.length).2 e := by
 have h1 := runEv_take (n := n) (l := l ++ [e]) (k := l.length) (by simp) l.length (Nat.le_refl _)
 rw [List.take_left'  rfl] at h1
 rw [List.length_append,List.length_singleton]
 conv=>lhs; unfold runEv
 rw [← h1,if_neg (by simp [h0])]
 simp
theorem checkH_of {h : Hist} (h1 : sizesErr h.sizes = 0) (h2 : h.writes.length ≤ 4096) (h3 : firstErr h.sizes h.writes = 0) (h4 : (runEv h.writes.length h.events h.events.length).1 = 0)
  (h5 : h.writes.length ≤ (runEv h.writes.length h.events h.events.length).2.issued.length) : (checkH h).1 = 0 := by
 unfold checkH
 rw [if_neg (by simp [h1]),if_neg (by omega),if_neg (by simp [h3]),if_neg (by simp [h4]),if_neg (by omega)]
theorem newH_check {s : List Int} (h : (newH s).2 = 0) : (checkH (newH s).1).1 = 0 := by
 unfold newH at h ⊢
 split at h
 ·rename_i h1; exact absurd h h1
 ·rename_i h1
  rw [if_neg h1]
  exact checkH_of (by simpa using h1) (by simp) rfl rfl (by simp)
theorem ackH_inv {h : Hist} {n : Int} (h0 : (ackH h n).2 = 0) : (checkH h).1 = 0 ∧ 0 ≤ n ∧ n < h.writes.length ∧ atEv h.events ⟨1,n⟩ < 0 ∧ (ackH h n).1 = ⟨h.sizes,h.writes,h.events ++ [⟨1,n⟩]⟩ := by
 unfold ackH at h0 ⊢
 split at h0
 ·rename_i h1; exact absurd h0 h1
 ·rename_i h1
  rw [if_neg h1]
  split at h0
  ·exact absurd h0 (by simp)
  ·rename_i h2
   rw [if_neg h2]
   split at h0
   ·exact absurd h0 (by simp)
   ·rename_i h3
    rw [if_neg h3]
    exact ⟨by simpa using h1,by omega,by omega,by omega,rfl⟩
theorem issueH_inv {h : Hist} {w : Wt} (h0 : (issueH h w).2.2 = 0) : (checkH h).1 = 0 ∧ h.writes.length < 4096 ∧ fitsErr h.sizes w = 0 ∧ (issueH h w).1 = ⟨h.sizes,h.writes ++ [w],h.events ++ [⟨0,h.writes.length⟩]⟩ := by
 unfold issueH at h0 ⊢
 split at h0
 ·rename_i h1; exact absurd h0 h1
 ·rename_i h1
  rw [if_neg h1]
  split at h0
  ·exact absurd h0 (by simp)
  ·rename_i h2
   rw [if_neg h2]
   split at h0
   ·rename_i h3; exact absurd h0 h3
   ·rename_i h3
    rw [if_neg h3]
    exact ⟨by simpa using h1,by omega,by simpa using h3,rfl⟩
theorem ackH_check {h : Hist} {n : Int} (h0 : (ackH h n).2 = 0) : (checkH (ackH h n).1).1 = 0 := by
 obtain ⟨hc,h1,h2,h3,e⟩ := ackH_inv h0
 rw [e]
 obtain ⟨htl,hlen,k1,k2,k3⟩ := checkH_ok hc
 obtain ⟨r1,r2⟩ := checkH_run hc
 rw [r2] at htl hlen
 have ha := runEv_app (n := h.writes.length) (e := ⟨1,n⟩) r1
 have hs : evStep h.writes.length h.events.length (runEv h.writes.length h.events h.events.length).2 ⟨1,n⟩ = (0,⟨(runEv h.writes.length h.events h.events.length).2.issued,(runEv h.writes.length h.events h.events.length).2.acked.set n.toNat h.events.length⟩) := by
  obtain ⟨y,rfl⟩ := Int.eq_ofNat_of_zero_le h1
  have hy : y < (runEv h.writes.length h.events h.events.length).2.acked.length := by have := htl.len; omega
  have e2 : (runEv h.writes.length h.events h.events.length).2.acked.getD (Int.toNat (y : Int)) 0 = atEv h.events ⟨1,y⟩ := by rw [← htl.ack y hy,Int.toNat_natCast]; exact getD_lt hy
  unfold evStep
  simp only
  rw [if_neg (by decide),if_pos trivial,if_neg (by omega),e2,if_neg (by omega)]
 rw [hs] at ha
 exact checkH_of k1 k2 k3 (by simp only [ha]) (by simp only [ha]; omega)
theorem issueH_check {h : Hist} {w : Wt} (h0 : (issueH h w).2.2 = 0) : (checkH (issueH h w).1).1 = 0 := by
 obtain ⟨hc,h1,h2,e⟩ := issueH_inv h0
 rw [e]
 obtain ⟨htl,hlen,k1,k2,k3⟩ := checkH_ok hc
 obtain ⟨r1,r2⟩ := checkH_run hc
 rw [r2] at hlen
 have hm := runEv_more (m := h.writes.length + 1) h.events.length r1 (by omega)
 have ha := runEv_app (n := h.writes.length + 1) (l := h.events) (e := ⟨0,h.writes.length⟩) (by rw [hm]; exact r1)
 rw [hm] at ha
 have hs : evStep (h.writes.length + 1) h.events.length (runEv h.writes.length h.events h.events.length).2 ⟨0,h.writes.length⟩ = (0,⟨(runEv h.writes.length h.events h.events.length).2.issued ++ [(h.events.length : Int)],(runEv h.writes.length h.events h.events.length).2.acked ++ [-1]⟩) := by
  unfold evStep
  simp only
  rw [if_pos trivial,if_neg (by omega)]
 rw [hs] at ha
 refine checkH_of k1 (by simp; omega) ?_ ?_ ?_
 ·simp only [firstErr_append,k3]; simp [firstErr,h2]
 ·simp only [List.length_append,List.length_singleton] at ha ⊢; rw [ha]
 ·simp only [List.length_append,List.length_singleton] at ha ⊢; rw [ha]; simp; omega
theorem stepE_check {ws : List Wt} {st : Hist × Nat} {e : Ev} (h : (checkH st.1).1 = 0) : (checkH (stepE ws st e).1).1 = 0 := by
 unfold stepE
 split
 ·split
  ·rename_i h1; exact ackH_check h1
  ·exact h
 ·split
  ·split
   ·rename_i h1; exact issueH_check h1
   ·exact h
  ·exact h
theorem runE_check {ws : List Wt} {h0 : Hist} {evs : List Ev} (h : (checkH h0).1 = 0) : ∀ j,j ≤ evs.length → (checkH (runE ws h0 evs j).1).1 = 0
 | 0,_=>by simp only [runE,List.take_zero,List.foldl_nil]; exact h
 | j + 1,hj=>by rw [runE_succ (by omega)]; exact stepE_check (runE_check h j (by omega))
theorem newH_sizes {s : List Int} (h : sizesErr s = 0) : newH s = (⟨s,[],[]⟩,0) := by
 unfold newH; rw [if_neg (by simp [h])]
theorem replay_upto {h : Hist} (hc : (checkH h).1 = 0) : ∀ j,j ≤ h.events.length →
  runE h.writes (newH h.sizes).1 h.events j = (⟨h.sizes,h.writes.take (runEv h.writes.length h.events j).2.issued.length,h.events.take j⟩,(runEv h.writes.length h.events j).2.issued.length) ∧ (runEv h.writes.length h.events j).1 = 0
 | 0,_=>by
  obtain ⟨_,_,k1,_,_⟩ := checkH_ok hc
  simp only [runE,List.take_zero,List.foldl_nil,newH_sizes k1,runEv,List.length_nil,and_self]
 | j + 1,hj=>by
  obtain ⟨ih,i0⟩ := replay_upto hc j (by omega)
  obtain ⟨htl,hlen,k1,k2,k3⟩ := checkH_ok hc
  obtain ⟨r1,r2⟩ := checkH_run hc
  -- up to here the history is correct
  have hcj := runE_check (ws := h.writes) (evs := h.events) (newH_check (s := h.sizes) (by rw [newH_sizes k1])) j (by omega)
  rw [ih] at hcj
  have tj := runEv_ok (n := h.writes.length) (l := h.events) j (by omega) i0
  -- the next one is correct
  have s1 : (runEv h.writes.length h.events (j + 1)).1 = 0 := by
   have mono : ∀ d,(runEv h.writes.length h.events (j + 1 + d)).1 = 0 → (runEv h.writes.length h.events (j + 1)).1 = 0 := by
    intro d
    induction d with
    | zero=>exact id
    | succ d ihd =>
     intro hz
     have hz : (runEv h.writes.length h.events (j + 1 + d + 1)).1 = 0 := hz
     apply ihd
     unfold runEv at hz
     split at hz
     ·rename_i hn; exact absurd hz hn
     ·rename_i hn; simpa using hn
   have := mono (h.events.length - (j + 1)) (by rw [show j + 1 + (h.events.length - (j + 1)) = h.events.length by omega]; exact r1)
   exact this
  have hjl : j < h.events.length := by omega
  have e1 : runEv h.writes.length h.events (j + 1) = evStep h.writes.length j (runEv h.writes.length h.events j).2 h.events[j] := by
   conv=>lhs; unfold runEv
   rw [if_neg (by simp [i0])]
   simp [hjl]
  refine ⟨?_,s1⟩
  rw [runE_succ hjl,ih,List.take_succ_eq_append_getElem hjl]
  rw [e1] at s1 ⊢
  generalize hT : (runEv h.writes.length h.events j).2 = T at *
  generalize hE : h.events[j] = e at *
  obtain ⟨k,x⟩ := e
  have hTl := tj.le
  unfold stepE
  unfold evStep at s1 ⊢
  simp only at s1 ⊢
  by_cases hk : k = 0
  ·subst hk
   rw [if_pos rfl] at s1 ⊢
   rw [if_neg (show ¬((0 : Int) = 1) by decide)]
   by_cases hq : x ≠ T.issued.length ∨ x ≥ h.writes.length
   ·rw [if_pos hq] at s1; exact absurd s1 (by simp)
   ·rw [if_neg hq]
    have hlt : T.issued.length < h.writes.length := by omega
    have hx : x = T.issued.length := by omega
    subst hx
    rw [if_pos hlt]
    have hw : h.writes.getD T.issued.length zWt = h.writes[T.issued.length] := by simp [hlt]
    rw [hw]
    have hf : fitsErr h.sizes h.writes[T.issued.length] = 0 := by
     have := firstErr_take (s := h.sizes) hlt
     have t1 : firstErr h.sizes (h.writes.take (T.issued.length + 1)) = 0 := by
      rcases Classical.em (firstErr h.sizes (h.writes.take (T.issued.length + 1)) = 0) with h' | h'
      ·exact h'
      ·have := firstErr_of_take h'; rw [k3] at this; exact this.symm
     have t2 : firstErr h.sizes (h.writes.take T.issued.length) = 0 := by
      rcases Classical.em (firstErr h.sizes (h.writes.take T.issued.length) = 0) with h' | h'
      ·exact h'
      ·have := firstErr_of_take h'; rw [k3] at this; exact this.symm
     rw [t1,t2] at this
     simpa using this.symm
    have hl : (h.writes.take T.issued.length).length = T.issued.length := by rw [List.length_take]; omega
    have hi : issueH ⟨h.sizes,h.writes.take T.issued.length,h.events.take j⟩ h.writes[T.issued.length] = (⟨h.sizes,h.writes.take T.issued.length ++ [h.writes[T.issued.length]],h.events.take j ++ [⟨0,(h.writes.take T.issued.length).length⟩]⟩,((h.writes.take T.issued.length).length : Int),(0 : Int)) := by
     unfold issueH
     rw [if_neg (by simp only [hcj]; simp),if_neg (by simp only [hl]; omega),if_neg (by simp only [hf]; simp)]
    rw [hi]
    simp only [if_pos,List.length_append,List.length_singleton,hl]
    rw [List.take_succ_eq_append_getElem hlt]
  ·rw [if_neg hk] at s1 ⊢
   by_cases hk1 : k = 1
   ·subst hk1
    rw [if_pos rfl] at s1 ⊢
    rw [if_pos rfl]
    by_cases hq : x < 0 ∨ x ≥ T.issued.length
    ·rw [if_pos hq] at s1; exact absurd s1 (by simp)
    ·rw [if_neg hq] at s1 ⊢
     by_cases hd : T.acked.getD x.toNat 0 ≥ 0
     ·rw [if_pos hd] at s1; exact absurd s1 (by simp)
     ·rw [if_neg hd]
      obtain ⟨y,rfl⟩ := Int.eq_ofNat_of_zero_le (show 0 ≤ x by omega)
      have hy : y < T.acked.length := by have := tj.len; omega
      have e2 : T.acked.getD (Int.toNat (y : Int)) 0 = atEv (h.events.take j) ⟨1,y⟩ := by rw [← tj.ack y hy,Int.toNat_natCast]; exact getD_lt hy
      have hl : (h.writes.take T.issued.length).length = T.issued.length := by rw [List.length_take]; omega
      have hi : ackH ⟨h.sizes,h.writes.take T.issued.length,h.events.take j⟩ (y : Int) = (⟨h.sizes,h.writes.take T.issued.length,h.events.take j ++ [⟨1,y⟩]⟩,(0 : Int)) := by
       unfold ackH
       rw [if_neg (by simp only [hcj]; simp),if_neg (by simp only [hl]; omega),if_neg (by simp only; rw [← e2]; exact hd)]
      rw [hi]
      simp only [if_pos]
   ·rw [if_neg hk1] at s1; exact absurd s1 (by simp)
end Sx
end
