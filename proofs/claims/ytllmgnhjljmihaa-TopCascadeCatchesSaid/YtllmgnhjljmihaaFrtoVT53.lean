/- A frame that runs alone, within a stack: what it leaves is laid beside what was there. -/
import Derived.Test.YtllmgnhjljmihaaOutoSp
import Derived.KernelRfl
import Derived.Test.YtllmgnhjljmihaaProg
import Derived.Sort.Row
import Derived.Laws.CopyRow
set_option linter.all false
set_option maxRecDepth 100000
set_option maxHeartbeats 0
noncomputable section
namespace Sx
open Go RowKit

mutual
theorem SV.ren_id : ∀ x : SV,x.ren id = x
 | .vec _=>rfl
 | .ptr ..=>rfl
 | .velt ..=>rfl
 | .view ..=>rfl
 | .mapp _=>rfl
 | .sl _ _=>rfl
 | .agg l=>by simp only [SV.ren,SV.renL_id l]
 | .tup l=>by simp only [SV.ren,SV.renL_id l]
 | .fn f a c=>by simp only [SV.ren,SV.renL_id a,SV.renL_id c]
 | .int ..=>rfl
 | .bool _=>rfl
 | .lb _=>rfl
 | .str _=>rfl
 | .nils=>rfl
 | .dat _=>rfl
 | .elt ..=>rfl
 | .nilp=>rfl
 | .nilf=>rfl
 | .undef=>rfl
 | .junk _=>rfl
 | .raw _=>rfl
theorem SV.renL_id : ∀ l : List SV,SV.renL id l = l
 | []=>rfl
 | x :: r=>by simp only [SV.renL,SV.ren_id x,SV.renL_id r]
end
theorem OBlk.ren_id : ∀ o : OBlk,o.ren id = o
 | .cells t cs=>by simp only [OBlk.ren,SV.renL_id]
 | .arr ..=>rfl
 | .pub _=>rfl
 | .mapD ..=>rfl
 | .map es=>by
  simp only [OBlk.ren,SV.ren_id]
  congr 1
  conv=>rhs; rw [← List.map_id es]
  rfl

theorem named_key {m : Mem} {k : Nat} {o : OBlk} (h : (k,o) ∈ m) : k ∈ m.named := List.mem_flatMap.2 ⟨_,h,List.mem_cons_self⟩
theorem named_in {m : Mem} {k j : Nat} {o : OBlk} (h : (k,o) ∈ m) (hj : j ∈ o.keys) : j ∈ m.named := List.mem_flatMap.2 ⟨_,h,List.mem_cons_of_mem _ hj⟩

theorem Good.envTo {C : Ctx} {m : Mem} {E E' : Env} {H : HV} {w : World} (g : Good C m E H w) (hj : E'.j = E.j) (h : ∀ k,k ∈ m.named → E'.b k = E.b k ∧ E'.v k = E.v k) (hp : ∀ f,C.x.pn = some f → ∀ k,PIN ≤ k → E'.b k = E.b k) : Good C m E' H w := by
 refine ⟨g.below,g.ext,g.fresh,g.cell,fun k o hko=>?_,g.keys,fun x y hx hy hne hlx hly=>?_,⟨g.fix.fx,g.fix.mark,g.fix.nodup,fun f hf k hk=>(hp f hf k hk).trans (g.fix.pin f hf k hk)⟩⟩
 ·have := OOk.ren (ρ := id) hj (g.own k o hko) (h k (named_key hko)) (fun j hj=>h j (named_in hko hj)) (fun es _ hk=>keysOk_ren hk)
  rw [OBlk.ren_id] at this
  exact this
 ·rw [(h x.1 (named_key (o := x.2) hx)).1,(h y.1 (named_key (o := y.2) hy)).1]
  exact g.apart x y hx hy hne hlx hly
theorem denL_envTo {E E' : Env} (hj : E'.j = E.j) {l : List SV} (h : ∀ k,k ∈ SV.keysL l → E'.b k = E.b k ∧ E'.v k = E.v k) : SV.denL E' l = SV.denL E l := by
 have := SV.denL_ren (ρ := id) hj l h
 rwa [SV.renL_id] at this
def shM (m : Mem) : Mem := m.map fun e=>(e.1 + 500,e.2.ren (· + 500))
def RetM (w : World) (H : HV) (Φ : SV → Mem → Prop) : Value → World → Prop :=
 fun u w'=>∃ v m E1 H',Φ v m ∧ u = v.den E1 ∧ Good ⟨w,H⟩ m E1 H' w' ∧ v.Ok H' ∧ v.jk 0 = false ∧ (∀ x,x ∈ m → x.2.jk 0 = false)

theorem OOk.ctx {C C' : Ctx} {E : Env} {H : HV} {w : World} {k : Nat} {o : OBlk} (h : OOk C E H w k o) (hs : C'.w0.heap.size ≤ C.w0.heap.size) : OOk C' E H w k o := by
 cases o with
 | cells t cs=>exact ⟨Nat.le_trans hs h.1,h.2⟩
 | pub d=>exact h
 | map es=>exact ⟨Nat.le_trans hs h.1,h.2⟩
 | mapD kk ag ts d=>exact ⟨Nat.le_trans hs h.1,h.2⟩
 | arr e d =>
  obtain ⟨hd,sz,rows,h1,h2,h3,h4⟩ := h
  exact ⟨hd,sz,rows,h1,h2,ownsRow_mono h3 hs,h4⟩

theorem OBlk.lies_ren (ρ : Nat → Nat) (o : OBlk) : (o.ren ρ).Lies ↔ o.Lies := by cases o <;> rfl

section
variable {P : Program} {C : Ctx} {R : Value → World → Prop}

theorem runs_frame {top g : SFrm} {rest : List SFrm} {mem : Mem} {Φ : SV → Mem → Prop}
  (hpure : ∀ k,k ∉ SV.keysL top.tmps) (hlow : ∀ k,k ∈ SV.keysL g.tmps ++ ((rest.flatMap fun f=>SV.keysL f.tmps) ++ mem.named) → k < 500)
  (h1 : ∀ (H : HV) (w : World),SV.OkL H top.tmps → Runs P ⟨w,H⟩ ⟨top,[],[]⟩ (RetM w H Φ))
  (h2 : ∀ v m,Φ v m → Runs P C ⟨{ g with tmps := putS g.tmps g.await (v.ren (· + 500)),await := none },rest,shM m ++ mem⟩ R) (hpn : C.x.pn = none := by rfl) :
  Runs P C ⟨top,g :: rest,mem⟩ R := by
 intro E H w gd ok
 have hcell := gd.cell
 have hr := h1 H w ok.1 E H w (good_start hcell E) ⟨ok.1,by simp⟩
 rw [stkRun_eq] at hr ⊢
 simp only [List.map_nil,restOf] at hr
 simp only [List.map_cons,restOf]
 refine CFrm.run_mono hr fun u w' ⟨v,m,E1,H',hΦ,hu,g1,hv,hvj,hmj⟩=>?_
 -- where all lies afterwards
 let E2 : Env := ⟨fun k=>if 500 ≤ k then E1.b (k - 500) else E.b k,fun k=>if 500 ≤ k then E1.v (k - 500) else E.v k,E.j⟩
 let E1' : Env := ⟨E1.b,E1.v,E.j⟩
 have hs1 : Same 0 E1 E1' := ⟨rfl,rfl,fun i hi=>absurd hi (Nat.not_lt_zero _)⟩
 have g1' : Good ⟨w,H⟩ m E1' H' w' := g1.same' hs1 hmj
 have hu' : u = v.den E1' := by rw [hu]; exact (den_same hs1 v hvj).symm
 have hren : ∀ k,Ren (· + 500) E1' E2 k := fun k=>by
  refine ⟨?_,?_⟩ <;> simp [E2,E1']
 have hold : ∀ k,k < 500 → E2.b k = E.b k ∧ E2.v k = E.v k := fun k hk=>by
  refine ⟨?_,?_⟩ <;> simp [E2] <;> omega
 have hden : v.den E1' = (v.ren (· + 500)).den E2 := (SV.den_ren (ρ := (· + 500)) (E := E1') (E' := E2) rfl v (fun k _=>hren k)).symm
 have hmemlow : ∀ k,k ∈ mem.named → k < 500 := fun k hk=>hlow k (List.mem_append_right _ (List.mem_append_right _ hk))
 have gm : Good C mem E H' w' := gd.call g1.below g1.ext g1.fresh g1.cell
 have gm2 : Good C mem E2 H' w' := gm.envTo rfl (fun k hk=>hold k (hmemlow k hk)) fun f hf=>by rw [hpn] at hf; cases hf
 have hlowm : ∀ k o,(k,o) ∈ m → w.heap.size ≤ E1.b k ∨ ¬o.Lies := fun k o hko=>by
  by_cases hl : o.Lies
  ·exact .inl ((g1.own k o hko).low hl)
  ·exact .inr hl
 have good2 : Good C (shM m ++ mem) E2 H' w' := by
  refine ⟨gm.below,gm.ext,gm.fresh,gm.cell,fun k o hko=>?_,?_,fun x y hx hy hne hlx hly=>?_,gm2.fix⟩
  ·rcases List.mem_append.1 hko with h | h
   ·obtain ⟨⟨k',o'⟩,hm,he⟩ := List.mem_map.1 h
    cases he
    exact (OOk.ren (ρ := (· + 500)) (E := E1') (E' := E2) rfl (g1'.own k' o' hm) (hren k') (fun j _=>hren j) (fun es _ hk=>keysOk_ren hk)).ctx gd.below.size
   ·exact gm2.own k o h
  ·rw [List.pairwise_append]
   refine ⟨?_,gm.keys,fun x hx y hy=>?_⟩
   ·rw [shM,List.pairwise_map]
    exact g1.keys.imp fun h=>by simpa using h
   ·obtain ⟨x',hx',rfl⟩ := List.mem_map.1 hx
    have := hmemlow y.1 (named_key (o := y.2) hy)
    simp only; omega
  ·have newb : ∀ z : Nat × OBlk,z ∈ shM m → z.2.Lies → w.heap.size ≤ E2.b z.1 ∧ ∃ z',z' ∈ m ∧ z.1 = z'.1 + 500 ∧ z'.2.Lies ∧ E2.b z.1 = E1.b z'.1 := fun z hz hl=>by
    obtain ⟨z',hz',rfl⟩ := List.mem_map.1 hz
    have hl' := (OBlk.lies_ren _ _).1 hl
    have hb : E2.b (z'.1 + 500) = E1.b z'.1 := (hren z'.1).1
    exact ⟨by rw [hb]; exact (g1.own z'.1 z'.2 hz').low hl',z',hz',rfl,hl',hb⟩
   have oldb : ∀ z : Nat × OBlk,z ∈ mem → z.2.Lies → E2.b z.1 < w.heap.size := fun z hz hl=>by
    rw [(hold z.1 (hmemlow z.1 (named_key (o := z.2) hz))).1]
    exact (gd.own z.1 z.2 hz).lt hl
   rcases List.mem_append.1 hx with hx | hx <;> rcases List.mem_append.1 hy with hy | hy
   ·obtain ⟨_,x',hx',ex,lx,bx⟩ := newb x hx hlx
    obtain ⟨_,y',hy',ey,ly,by'⟩ := newb y hy hly
    rw [bx,by']
    exact g1.apart x' y' hx' hy' (fun h=>hne (by rw [ex,ey,h])) lx ly
   ·have := (newb x hx hlx).1; have := oldb y hy hly; omega
   ·have := oldb x hx hlx; have := (newb y hy hly).1; omega
   ·exact gm2.apart x y hx hy hne hlx hly
 have hgt : SV.denL E2 g.tmps = SV.denL E g.tmps := denL_envTo (E := E) (E' := E2) rfl fun k hk=>hold k (hlow k (List.mem_append_left _ hk))
 have hrt : rest.map (SFrm.den E2) = rest.map (SFrm.den E) := by
  apply List.map_congr_left
  intro f hf
  simp only [SFrm.den]
  rw [denL_envTo (E := E) (E' := E2) rfl fun k hk=>hold k (hlow k (List.mem_append_right _ (List.mem_append_left _ (List.mem_flatMap.2 ⟨f,hf,hk⟩))))]
 have okg : SV.OkL H' g.tmps := SV.OkL.mono g1.ext _ (ok.2 g List.mem_cons_self)
 have fin := h2 v m hΦ E2 H' w' good2 ⟨okL_putS okg (SV.ok_ren v hv),fun f hf=>SV.OkL.mono g1.ext _ (ok.2 f (List.mem_cons_of_mem _ hf))⟩
 simp only [SFrm.den] at fin ⊢
 rw [← put_den,hgt,← hden,← hu'] at fin
 rw [hrt] at fin
 cases rest <;> exact fin
theorem retM {w : World} {H : HV} {Φ : SV → Mem → Prop} {fn : FuncId} {aw : Option Tmp} {k : List Item} {tmps : List SV} {mem : Mem} {f : Func} {l : List SV} (m' : Mem) (hfn : P.funcs[fn]? = some f) (hres : resS P mem tmps f.results.toList = some l)
  (hsub : m'.Sublist mem) (hj : (one? l).jk 0 = false) (hjm : m'.all (fun x=>!x.2.jk 0) = true) (h : Φ (one? l) m') : (Tree.leaf ⟨⟨fn,none,aw,.code .ret :: k,tmps⟩,[],mem⟩).holds P ⟨w,H⟩ (RetM w H Φ) := by
 refine runs_ret hfn hres fun E H' w' g hv=>⟨_,m',E,H',h,rfl,g.sub hsub,hv,hj,fun x hx=>?_⟩
 have := List.all_eq_true.1 hjm x hx
 simpa using this
def atRet (c : Conf) : Bool :=
 match c.rest with
 | []=>match c.top.ri with
  | none=>match c.top.todo with
   | .code .ret :: _=>true
   | _=>false
  | some _=>false
 | _ :: _=>false
def execR (P : Program) (cs : Ctrs) (n : Nat) : Conf → Tree :=
 Nat.rec (motive := fun _=>Conf → Tree) (fun _=>.stuck) (fun _ ih c=>match atRet c with
  | true=>leafR c
  | false=>stepC P cs (fun _=>false) ih c) n
theorem execR_sound {cs : Ctrs} (hcs : cs.Ok P) : ∀ (n : Nat) (c : Conf),(execR P cs n c).holds P C R → Runs P C c R
 | 0,_,h=>h.elim
 | n + 1,c,h=>by
  have e : execR P cs (n + 1) c = match atRet c with
   | true=>leafR c
   | false=>stepC P cs (fun _=>false) (execR P cs n) c := rfl
  rw [e] at h
  cases hr : atRet c with
  | true=>rw [hr,leafR_eq] at h; exact h
  | false=>rw [hr] at h; exact step_sound (U := fun _=>false) (ih := execR P cs n) hcs (fun c h=>execR_sound hcs n c h) c h
end
end Sx
end
noncomputable section
namespace Sx
open Go RowKit





section
variable {P : Program} {C : Ctx} {Φ : Bool → List SV → Mem → Prop}






end
def SV.plainK : SV → Bool
 | .int ..=>true
 | .bool _=>true
 | .lb _=>true
 | .str _=>true
 | .nils=>true
 | .dat _=>true
 | _=>false
def SV.kept : SV → Bool
 | .vec _=>false
 | .ptr k _=>Nat.ble PIN k
 | .velt ..=>false
 | .view ..=>false
 | .mapp _=>false
 | .sl _ _=>false
 | .agg l=>l.all SV.plainK
 | .tup _=>false
 | .fn _ a c=>a.isEmpty && c.all fun x=>match x with
  | .ptr k _=>Nat.ble PIN k
  | _=>false
 | _=>true
theorem Good.ctx {C C' : Ctx} {m : Mem} {E : Env} {H : HV} {w : World} (g : Good C m E H w) (h0 : C'.w0 = C.w0) (hle : HLe C'.H0 H) (hf : ∀ b o v,H b o = some v → C'.H0 b o = some v ∨ C.w0.heap.size ≤ b) (hx : FixOk C'.x C.w0.heap.size E w) : Good C' m E H w := by
 obtain ⟨w0,H0⟩ := C'
 simp only at h0
 subst h0
 refine ⟨g.below,hle,hf,g.cell,fun k o hk=>?_,g.keys,g.apart,hx⟩
 have := g.own k o hk
 cases o <;> exact this
theorem Good.still {C : Ctx} {m : Mem} {E : Env} {H : HV} {w w' : World} (g : Good C m E H w) (hos : w'.os = w.os) (ht : w'.tape = w.tape) (hu : w'.output = w.output) (hs : w.heap.size ≤ w'.heap.size)
  (hb : ∀ j o,w.heap[j]? = some o → w'.heap[j]? = some o ∨ (stillO o = true ∧ C.w0.heap.size ≤ j ∧ C.x.fx j = none)) : Good C m E H w' := by
 have hq : ∀ j o,w.heap[j]? = some o → stillO o = false → w'.heap[j]? = w.heap[j]? := fun j o hj ho=>by
  rcases hb j o hj with h | ⟨h,_⟩
  ·rw [h,hj]
  ·rw [ho] at h; cases h
 have hc : ∀ b o v,H b o = some v → w'.heap[b]? = w.heap[b]? := fun b o v h=>by
  have h1 := g.cell b o v h
  cases hj : w.heap[b]? with
  | none=>simp [World.cell?,hj] at h1
  | some q =>
   rw [← hj]
   refine hq b q hj ?_
   simp only [World.cell?,hj,Option.isSome_none,Bool.false_eq_true,if_false] at h1
   cases q <;> first | rfl | (simp at h1)
 refine ⟨⟨hos.trans g.below.os,ht.trans g.below.tape,hu.trans g.below.output,Nat.le_trans g.below.size hs,fun j hj=>?_⟩,g.ext,g.fresh,fun b o v h=>?_,fun k o h=>?_,g.keys,g.apart,?_⟩
 ·rw [← g.below.block j hj]
  have hlt : j < w.heap.size := Nat.lt_of_lt_of_le hj g.below.size
  have hget : w.heap[j]? = some w.heap[j] := by simp [hlt]
  rcases hb j _ hget with h | ⟨_,h,_⟩
  ·rw [h,hget]
  ·omega
 ·rw [cell_of_heap (w := w) (hc b o v h)]; exact g.cell b o v h
 ·refine (g.own k o h).keep fun hl=>?_
  have hlt := (g.own k o h).lt hl
  have hget : w.heap[E.b k]? = some w.heap[E.b k] := by simp [hlt]
  exact hq _ _ hget ((g.own k o h).moves hl hget)
 ·refine ⟨fun b o h=>⟨?_,(g.fix.fx b o h).2⟩,g.fix.mark,g.fix.nodup,g.fix.pin⟩
  rcases hb b o (g.fix.fx b o h).1 with h1 | ⟨_,_,h1⟩
  ·exact h1
  ·rw [h1] at h; cases h
theorem Good.junk {C : Ctx} {m : Mem} {E : Env} {H : HV} {w : World} (g : Good C m E H w) (j : Nat → Value) (hm : m.all (fun x=>!x.2.jk 0) = true) : Good C m ⟨E.b,E.v,j⟩ H w :=
 g.same' (n := 0) ⟨rfl,rfl,fun i hi=>absurd hi (Nat.not_lt_zero _)⟩ fun x hx=>by simpa using List.all_eq_true.1 hm x hx
end Sx
end
noncomputable section
namespace Sx
open Go RowKit
def MemTo (m m' : Mem) : Prop := ∀ (C : Ctx) (E : Env) (H : HV) (w : World),Good C m E H w → ∃ E',E'.j = E.j ∧ (∀ k,PIN ≤ k → E'.b k = E.b k) ∧ Good C m' E' H w

theorem MemTo.sub {m m' : Mem} (h : m'.Sublist m) : MemTo m m' := fun _ E _ _ g=>⟨E,rfl,fun _ _=>rfl,g.sub h⟩
theorem MemTo.refl (m : Mem) : MemTo m m := fun _ E _ _ g=>⟨E,rfl,fun _ _=>rfl,g⟩
theorem MemTo.ren {m : Mem} (ρ : Nat → Nat) (hpin : ∀ k,PIN ≤ k → ρ k = k) (hlow : ∀ k,k ∈ m.named → k < PIN → ρ k < PIN)
  (hinj : ∀ k j,k ∈ m.named → j ∈ m.named → ρ k = ρ j → k = j) : MemTo m (m.map fun e=>(ρ e.1,e.2.ren ρ)) := by
 intro C E H w g
 let inv : Nat → Nat := fun i=>if PIN ≤ i then i else ((m.named.find? fun k=>ρ k == i).getD i)
 let E' : Env := ⟨fun i=>E.b (inv i),fun i=>E.v (inv i),E.j⟩
 have hinv : ∀ k,k ∈ m.named → inv (ρ k) = k := fun k hk=>by
  rcases Nat.lt_or_ge k PIN with h | h
  ·have hl := hlow k hk h
   simp only [inv,if_neg (Nat.not_le.2 hl)]
   cases hf : m.named.find? fun j=>ρ j == ρ k with
   | none =>
    have := List.find?_eq_none.1 hf k hk
    simp at this
   | some j =>
    have h1 := List.find?_some hf
    have h2 := List.mem_of_find?_eq_some hf
    simp only [beq_iff_eq] at h1
    simp only [Option.getD_some]
    exact hinj j k h2 hk h1
  ·rw [hpin k h]; simp only [inv,if_pos h]
 have ren : ∀ k,k ∈ m.named → Ren ρ E E' k := fun k hk=>by
  simp only [Ren,E',hinv k hk,and_self]
 refine ⟨E',rfl,fun k hk=>by simp only [E',inv,if_pos hk],?_⟩
 refine ⟨g.below,g.ext,g.fresh,g.cell,fun k o hko=>?_,?_,fun x y hx hy hne hlx hly=>?_,g.fix.keep (fun k hk=>by simp only [E',inv,if_pos hk]) fun _ _ h _=>h⟩
 ·obtain ⟨e,he,h1⟩ := List.mem_map.1 hko
  simp only [Prod.mk.injEq] at h1
  obtain ⟨rfl,rfl⟩ := h1
  exact (g.own e.1 e.2 he).ren (E' := E') (show E'.j = E.j from rfl) (ren _ (named_key (o := e.2) he)) (fun j hj=>ren j (named_in he hj)) (fun es _ hk=>keysOk_ren hk)
 ·rw [List.pairwise_map]
  refine g.keys.imp_of_mem ?_
  intro a b ha hb hne e
  exact hne (hinj _ _ (named_key (o := a.2) ha) (named_key (o := b.2) hb) e)
 ·obtain ⟨a,ha,h1⟩ := List.mem_map.1 hx
  obtain ⟨b,hb,h2⟩ := List.mem_map.1 hy
  subst h1; subst h2
  simp only at hne hlx hly ⊢
  rw [(ren a.1 (named_key (o := a.2) ha)).1,(ren b.1 (named_key (o := b.2) hb)).1]
  exact g.apart a b ha hb (fun e=>hne (by rw [e])) ((OBlk.lies_ren _ _).1 hlx) ((OBlk.lies_ren _ _).1 hly)
def Ctx.marked (C : Ctx) (D : Nat) : Ctx := @Ctx.mk C.w0 C.H0 ⟨fun b=>if b = D then some (.deferred (some [])) else C.x.fx b,D :: C.x.df,C.x.rd,C.x.pn⟩
def Ctx.loopX (C : Ctx) (Hb : HV) (pb : Nat → Nat) (D l : Nat) (r : Loop) : Ctx :=
 @Ctx.mk C.w0 Hb ⟨fun b=>if b = D then some (.deferred (some [])) else if b = l then some (.loop r) else C.x.fx b,[],true,some pb⟩


section
variable {P : Program} {it : FuncId}

end




section
variable {P : Program} {it : FuncId}





end

section
variable {P : Program} {it : FuncId}


theorem loopX_at {C : Ctx} {Hb : HV} {pb : Nat → Nat} {D l : Nat} {r : Loop} (hne : l ≠ D) : (C.loopX Hb pb D l r).x.fx l = some (.loop r) := by
 show (if l = D then some (Obj.deferred (some [])) else if l = l then some (.loop r) else C.x.fx l) = _
 rw [if_neg hne,if_pos rfl]
theorem Good.record {C : Ctx} {Hb : HV} {pb : Nat → Nat} {D l : Nat} {r r' : Loop} {m : Mem} {E : Env} {H : HV} {w : World} (g : Good (C.loopX Hb pb D l r) m E H w) (hlow : C.w0.heap.size ≤ l) (hne : l ≠ D) (hfx : C.x.fx l = none) :
  Good (C.loopX Hb pb D l r') m E H (w.putObj l (.loop r')) := by
 have hl := (g.fix.fx l (.loop r) (loopX_at hne)).1
 have hlt := (Array.getElem?_eq_some_iff.1 hl).1
 have g1 : Good (@Ctx.mk C.w0 Hb ⟨fun b=>if b = D then some (.deferred (some [])) else C.x.fx b,[],true,some pb⟩) m E H w := by
  refine g.ctx rfl g.ext (fun b o v h=>g.fresh b o v h) ⟨fun b o h=>?_,(fun _ h=>by cases h),List.nodup_nil,g.fix.pin⟩
  refine g.fix.fx b o ?_
  show (if b = D then some (Obj.deferred (some [])) else if b = l then some (.loop r) else C.x.fx b) = some o
  have h : (if b = D then some (Obj.deferred (some [])) else C.x.fx b) = some o := h
  split at h
  ·rename_i e; rw [if_pos e]; exact h
  ·rename_i e
   rw [if_neg e]
   by_cases e2 : b = l
   ·rw [e2,hfx] at h; cases h
   ·rw [if_neg e2]; exact h
 have g2 := g1.still (w' := w.putObj l (.loop r')) rfl rfl rfl (by simp) fun j o hj=>by
  by_cases e : j = l
  ·subst e; rw [hl] at hj; cases hj
   exact .inr ⟨rfl,hlow,by show (if j = D then some (Obj.deferred (some [])) else C.x.fx j) = none; rw [if_neg hne,hfx]⟩
  ·exact .inl (by rw [heap_putObj _ _ _ _ e]; exact hj)
 refine g2.ctx rfl g2.ext (fun b o v h=>g2.fresh b o v h) ⟨fun b o h=>?_,(fun _ h=>by cases h),List.nodup_nil,g2.fix.pin⟩
 have h : (if b = D then some (Obj.deferred (some [])) else if b = l then some (.loop r') else C.x.fx b) = some o := h
 split at h
 ·rename_i e
  exact g2.fix.fx b o (by show (if b = D then some (Obj.deferred (some [])) else C.x.fx b) = some o; rw [if_pos e]; exact h)
 ·rename_i e
  split at h
  ·rename_i e2; cases h; rw [e2]
   exact ⟨World.putObj_heap_same hlt,rfl⟩
  ·exact g2.fix.fx b o (by show (if b = D then some (Obj.deferred (some [])) else C.x.fx b) = some o; rw [if_neg e]; exact h)
theorem Good.behind {C : Ctx} {Hb : HV} {pb : Nat → Nat} {D l : Nat} {r : Loop} {m : Mem} {E : Env} {H : HV} {w : World} (g : Good (C.loopX Hb pb D l r) m E H w) (hle : HLe C.H0 Hb) (hfr : ∀ b o v,Hb b o = some v → C.H0 b o = some v ∨ C.w0.heap.size ≤ b)
  (hpn : C.x.pn = none) (hlowD : C.w0.heap.size ≤ D) (hlow : C.w0.heap.size ≤ l) (hne : l ≠ D) (hfl : C.x.fx l = none) (hnd : D ∉ C.x.df) (hm : ∀ b,b ∈ C.x.df → C.w0.heap.size ≤ b ∧ b ≠ D ∧ C.x.fx b = some (.deferred (some []))) (hn : C.x.df.Nodup) (r' : Loop) :
  Good (C.marked D) m E H (w.putObj l (.loop r')) := by
 have g1 := g.record (r' := r') hlow hne hfl
 refine g1.ctx rfl (hle.trans g1.ext) (fun b o v h=>?_) ⟨fun b o h=>?_,fun b h=>?_,?_,fun f h=>?_⟩
 ·rcases g1.fresh b o v h with h1 | h1
  ·exact hfr b o v h1
  ·exact .inr h1
 ·refine g1.fix.fx b o ?_
  show (if b = D then some (Obj.deferred (some [])) else if b = l then some (.loop r') else C.x.fx b) = some o
  have h : (if b = D then some (Obj.deferred (some [])) else C.x.fx b) = some o := h
  split at h
  ·rename_i e; rw [if_pos e]; exact h
  ·rename_i e
   rw [if_neg e]
   by_cases e2 : b = l
   ·rw [e2,hfl] at h; cases h
   ·rw [if_neg e2]; exact h
 ·have h : b ∈ D :: C.x.df := h
  rcases List.mem_cons.1 h with rfl | h
  ·exact ⟨hlowD,by show (if b = b then some (Obj.deferred (some [])) else C.x.fx b) = _; rw [if_pos rfl]⟩
  ·obtain ⟨h1,h2,h3⟩ := hm b h
   exact ⟨h1,by show (if b = D then some (Obj.deferred (some [])) else C.x.fx b) = _; rw [if_neg h2]; exact h3⟩
 ·exact List.nodup_cons.2 ⟨hnd,hn⟩
 ·have h : C.x.pn = some f := h
  rw [hpn] at h; cases h

end
end Sx
end
noncomputable section
namespace Sx
open Go RowKit






section
variable {P : Program} {C : Ctx} {R : Value → World → Prop}






theorem MemTo.perm {m m' : Mem} (hp : m'.Perm m) : MemTo m m' := fun _ E _ _ g=>⟨E,rfl,fun _ _=>rfl,g.perm hp⟩
theorem MemTo.trans {a b c : Mem} (h : MemTo a b) (k : MemTo b c) : MemTo a c := fun C E H w g=>by
 obtain ⟨E1,h1,h2,h3⟩ := h C E H w g
 obtain ⟨E2,k1,k2,k3⟩ := k C E1 H w h3
 exact ⟨E2,k1.trans h1,fun q hq=>(k2 q hq).trans (h2 q hq),k3⟩
def moveK (a b k : Nat) : Nat :=
 match Nat.beq k a with
 | true=>b
 | false=>k
theorem MemTo.move {m : Mem} (a b : Nat) (hab : (Nat.blt a PIN && Nat.blt b PIN && !(m.named.contains b)) = true) : MemTo m (m.map fun e=>(moveK a b e.1,e.2.ren (moveK a b))) := by
 simp only [Bool.and_eq_true,Bool.not_eq_true',Nat.blt_eq] at hab
 obtain ⟨⟨ha,hb⟩,hno⟩ := hab
 have hno : b ∉ m.named := fun h=>by
  have := List.contains_iff_mem.2 h
  rw [hno] at this; cases this
 have e1 : ∀ k,k ≠ a → moveK a b k = k := fun k h=>by
  have : Nat.beq k a = false := by
   cases hb : Nat.beq k a with
   | false=>rfl
   | true=>exact absurd (Nat.eq_of_beq_eq_true hb) h
  simp only [moveK,this]
 have e2 : moveK a b a = b := by simp only [moveK,Nat.beq_refl]
 refine MemTo.ren _ (fun k hk=>e1 k (by omega)) (fun k _ hk=>?_) fun k j hk hj e=>?_
 ·by_cases h : k = a
  ·subst h; rw [e2]; exact hb
  ·rw [e1 k h]; exact hk
 ·by_cases h : k = a <;> by_cases h' : j = a
  ·rw [h,h']
  ·subst h; rw [e2,e1 j h'] at e; exact absurd (e ▸ hj) hno
  ·subst h'; rw [e2,e1 k h] at e; exact absurd (e ▸ hk) hno
  ·rw [e1 k h,e1 j h'] at e; exact e

end
end Sx
end
noncomputable section
namespace Sx
open Go RowKit
def SV.pinned : SV → Bool
 | .ptr k _=>Nat.ble PIN k
 | .mapp k=>Nat.ble PIN k
 | .sl k _=>Nat.ble PIN k
 | .int ..=>true
 | .bool _=>true
 | .lb _=>true
 | .str _=>true
 | .nils=>true
 | .dat _=>true
 | .elt ..=>true
 | .nilp=>true
 | .nilf=>true
 | .undef=>true
 | .junk _=>true
 | .raw _=>true
 | _=>false
theorem den_pinned {E E' : Env} (hj : E'.j = E.j) (hb : ∀ k,PIN ≤ k → E'.b k = E.b k) : ∀ x : SV,x.pinned = true → x.den E' = x.den E
 | .ptr k _,h=>by simp only [SV.den,hb k (Nat.le_of_ble_eq_true h)]
 | .mapp k,h=>by simp only [SV.den,hb k (Nat.le_of_ble_eq_true h)]
 | .sl k _,h=>by simp only [SV.den,hb k (Nat.le_of_ble_eq_true h)]
 | .int ..,_=>by simp [SV.den]
 | .bool _,_=>by simp [SV.den]
 | .lb _,_=>by simp [SV.den]
 | .str _,_=>by simp [SV.den]
 | .nils,_=>by simp [SV.den]
 | .dat _,_=>by simp [SV.den]
 | .elt ..,_=>by simp [SV.den]
 | .nilp,_=>by simp [SV.den]
 | .nilf,_=>by simp [SV.den]
 | .undef,_=>by simp [SV.den]
 | .junk _,_=>by simp [SV.den,hj]
 | .raw _,_=>by simp [SV.den]
theorem denL_pinned {E E' : Env} (hj : E'.j = E.j) (hb : ∀ k,PIN ≤ k → E'.b k = E.b k) : ∀ l : List SV,l.all SV.pinned = true → SV.denL E' l = SV.denL E l
 | [],_=>rfl
 | x :: r,h=>by
  simp only [List.all_cons,Bool.and_eq_true] at h
  simp only [SV.denL,den_pinned hj hb x h.1,denL_pinned hj hb r h.2]
abbrev pinX (f : Nat → Nat) : CtxX := ⟨fun _=>none,[],false,some f⟩
def RetP (w0 : World) (H : HV) (f : Nat → Nat) (Φ : SV → Mem → Prop) : Value → World → Prop :=
 fun u w'=>∃ v m E1 H',Φ v m ∧ u = v.den E1 ∧ Good ⟨w0,H⟩ m E1 H' w' ∧ (∀ k,PIN ≤ k → E1.b k = f k) ∧ v.Ok H' ∧ v.jk 0 = false ∧ (∀ x,x ∈ m → x.2.jk 0 = false)
section
variable {P : Program} {R : Value → World → Prop}
theorem runs_meth {w0 : World} {H0 : HV} {top g : SFrm} {rest : List SFrm} {mem : Mem} {Φ : SV → Mem → Prop}
  (hgp : (g.tmps.all SV.pinned && rest.all fun f=>f.tmps.all SV.pinned) = true)
  (h1 : ∀ (H : HV) (f : Nat → Nat),SV.OkL H top.tmps → Runs P (@Ctx.mk w0 H (pinX f)) ⟨top,[],mem⟩ (RetP w0 H f Φ))
  (h2 : ∀ v m,Φ v m → Runs P ⟨w0,H0⟩ ⟨{ g with tmps := putS g.tmps g.await v,await := none },rest,m⟩ R) :
  Runs P ⟨w0,H0⟩ ⟨top,g :: rest,mem⟩ R := by
 intro E H w gd ok
 simp only [Bool.and_eq_true,List.all_eq_true] at hgp
 have gd1 : Good (@Ctx.mk w0 H (pinX E.b)) mem E H w :=
  ⟨gd.below,HLe.refl _,fun _ _ _ h=>.inl h,gd.cell,fun k o h=>by have := gd.own k o h; cases o <;> exact this,gd.keys,gd.apart,⟨(fun _ _ h=>nomatch h),(fun _ h=>nomatch h),List.nodup_nil,fun f hf k _=>by cases hf; rfl⟩⟩
 have hr := h1 H E.b ok.1 E H w gd1 ⟨ok.1,by simp⟩
 rw [stkRun_eq] at hr ⊢
 simp only [List.map_nil,restOf] at hr
 simp only [List.map_cons,restOf]
 refine CFrm.run_mono hr fun u w' ⟨v,m,E1,H',hΦ,hu,g1,hpin,hv,hvj,hmj⟩=>?_
 let E2 : Env := ⟨E1.b,E1.v,E.j⟩
 have hs1 : Same 0 E1 E2 := ⟨rfl,rfl,fun i hi=>absurd hi (Nat.not_lt_zero _)⟩
 have g2 : Good ⟨w0,H⟩ m E2 H' w' := g1.same' hs1 hmj
 have hu' : u = v.den E2 := by rw [hu]; exact (den_same hs1 v hvj).symm
 have g3 : Good ⟨w0,H0⟩ m E2 H' w' :=
  ⟨g2.below,gd.ext.trans g2.ext,fun b o x h=>by
   rcases g2.fresh b o x h with h | h
   ·exact gd.fresh b o x h
   ·exact .inr h,g2.cell,fun k o h=>by have := g2.own k o h; cases o <;> exact this,g2.keys,g2.apart,fixOk_plain _ _ _⟩
 have hb : ∀ k,PIN ≤ k → E2.b k = E.b k := hpin
 have hgt : SV.denL E2 g.tmps = SV.denL E g.tmps := denL_pinned (E := E) (E' := E2) rfl hb _ (List.all_eq_true.2 hgp.1)
 have hrt : rest.map (SFrm.den E2) = rest.map (SFrm.den E) := by
  apply List.map_congr_left
  intro f hf
  simp only [SFrm.den]
  rw [denL_pinned (E := E) (E' := E2) rfl hb _ (List.all_eq_true.2 (hgp.2 f hf))]
 have okg : SV.OkL H' g.tmps := SV.OkL.mono g2.ext _ (ok.2 g List.mem_cons_self)
 have fin := h2 v m hΦ E2 H' w' g3 ⟨okL_putS okg hv,fun f hf=>SV.OkL.mono g2.ext _ (ok.2 f (List.mem_cons_of_mem _ hf))⟩
 simp only [SFrm.den] at fin ⊢
 rw [← put_den,hgt,← hu'] at fin
 rw [hrt] at fin
 cases rest <;> exact fin

end
def pickK (ks : List Nat) (m : Mem) : Mem := ks.filterMap fun k=>(Mem.get m k).map fun o=>(k,o)
theorem MemTo.pickK {m : Mem} (ks : List Nat) (hn : ks.Nodup) : MemTo m (pickK ks m) := fun C E H w g=>by
 have hmem : ∀ x,x ∈ Sx.pickK ks m → x ∈ m := fun x hx=>by
  obtain ⟨k,_,hk⟩ := List.mem_filterMap.1 hx
  obtain ⟨o,ho,rfl⟩ := Option.map_eq_some_iff.1 hk
  exact Mem.get_mem ho
 refine ⟨E,rfl,fun _ _=>rfl,⟨g.below,g.ext,g.fresh,g.cell,fun k o h=>g.own k o (hmem _ h),?_,fun x y hx hy=>g.apart x y (hmem x hx) (hmem y hy),g.fix⟩⟩
 unfold Sx.pickK
 rw [List.pairwise_filterMap]
 refine hn.imp fun {a b} hab x hx y hy=>?_
 obtain ⟨_,_,rfl⟩ := Option.map_eq_some_iff.1 hx
 obtain ⟨_,_,rfl⟩ := Option.map_eq_some_iff.1 hy
 exact hab
def moveM (m : Mem) : List (Nat × Nat) → Option Mem
 | []=>some m
 | (a,b) :: r=>match Nat.blt a PIN && Nat.blt b PIN && !(m.named.contains b) with
  | true=>moveM (m.map fun e=>(moveK a b e.1,e.2.ren (moveK a b))) r
  | false=>none
theorem MemTo.moves : ∀ (l : List (Nat × Nat)) {m m' : Mem},moveM m l = some m' → MemTo m m'
 | [],m,m',h=>by simp only [moveM,Option.some.injEq] at h; subst h; exact MemTo.refl _
 | (a,b) :: r,m,m',h=>by
  simp only [moveM] at h
  split at h
  ·rename_i hc; exact (MemTo.move a b hc).trans (MemTo.moves r h)
  ·cases h
theorem MemTo.to {m : Mem} (l : List (Nat × Nat)) (ks : List Nat) {m' : Mem} (h : (moveM m l).map (Sx.pickK ks) = some m') (hn : ks.Nodup := by decide) : MemTo m m' := by
 obtain ⟨m1,h1,rfl⟩ := Option.map_eq_some_iff.1 h
 exact (MemTo.moves l h1).trans (MemTo.pickK ks hn)
section
variable {P : Program}
theorem ret_true {w0 : World} {H : HV} {f : Nat → Nat} {Ψ : Mem → Prop} {fn : FuncId} {aw : Option Tmp} {k : List Item} {tmps : List SV} {mem : Mem} {fd : Func} {l : List SV} (m' : Mem) (mv : List (Nat × Nat)) (ks : List Nat)
  (hfn : P.funcs[fn]? = some fd) (hres : resS P mem tmps fd.results.toList = some l) (ht : ∀ E,(one? l).den E = .bool true) (hm : (moveM mem mv).map (pickK ks) = some m') (hn : ks.Nodup)
  (hjm : m'.all (fun x=>!x.2.jk 0) = true) (h : Ψ m') : (Tree.leaf ⟨⟨fn,none,aw,.code .ret :: k,tmps⟩,[],mem⟩).holds P (@Ctx.mk w0 H (pinX f)) (RetP w0 H f fun v m=>v = .lb true ∧ Ψ m) := by
 intro E Hx w g ok
 have hpin := g.fix.pin f rfl
 obtain ⟨h1,h2⟩ := run_results (P := P) g.take ok.1 hres
 refine Go1.ret hfn rfl g.fix.nodup (fun D hD=>(g.fix.fx D _ (g.fix.mark D hD).2).1) h1 ?_
 obtain ⟨E',e1,e2,g'⟩ := MemTo.to mv ks hm hn _ E Hx _ g.take
 exact ⟨.lb true,m',E',Hx,⟨rfl,h⟩,(ht E).trans (by simp [SV.den]),g',fun q hq=>(e2 q hq).trans (hpin q hq),by simp [SV.Ok],rfl,fun x hx=>by
  have := List.all_eq_true.1 hjm x hx
  simpa using this⟩
end
def keyOf : SV → Option Nat
 | .vec k=>some k
 | .view k _ _ _=>some k
 | _=>none
def mvAt (cs : List SV) : List Nat → Nat → List (Nat × Nat) × List (Nat × Nat)
 | [],_=>([],[])
 | o :: r,i=>match (cs[o]?).bind keyOf,mvAt cs r (i + 1) with
  | some k,(a,b)=>((k,5000 + i) :: a,(5000 + i,i) :: b)
  | none,(a,b)=>(a,b)
def mvOf (K : Nat) (offs : List Nat) (m : Mem) : List (Nat × Nat) :=
 match m.get K with
 | some (.cells _ cs)=>(mvAt cs offs 0).1 ++ (mvAt cs offs 0).2
 | _=>[]
section
variable {P : Program}
theorem ret_sys (K : Nat) (offs : List Nat) {w0 : World} {H : HV} {f : Nat → Nat} {Ψ : Mem → Prop} {fn : FuncId} {aw : Option Tmp} {k : List Item} {tmps : List SV} {mem : Mem} {fd : Func} {l : List SV} (m' : Mem) (ks : List Nat)
  (hfn : P.funcs[fn]? = some fd) (hres : resS P mem tmps fd.results.toList = some l) (ht : ∀ E,(one? l).den E = .bool true) (hm : (moveM mem (mvOf K offs mem)).map (pickK ks) = some m') (hn : ks.Nodup)
  (hjm : m'.all (fun x=>!x.2.jk 0) = true) (h : Ψ m') : (Tree.leaf ⟨⟨fn,none,aw,.code .ret :: k,tmps⟩,[],mem⟩).holds P (@Ctx.mk w0 H (pinX f)) (RetP w0 H f fun v m=>v = .lb true ∧ Ψ m) :=
 ret_true m' (mvOf K offs mem) ks hfn hres ht hm hn hjm h
end
theorem Good.swap {C : Ctx} {m : Mem} {E : Env} {H : HV} {w : World} {k : Nat} {o o' : OBlk} (g : Good C m E H w) (hg : m.get k = some o) (ho : OOk C E H w k o → OOk C E H w k o') (hl : o'.Lies → o.Lies) : Good C (m.set k o') E H w := by
 have hmem := Mem.get_mem hg
 have hspec := Mem.set_spec (o' := o') g.keys hg
 have hlies : ∀ z : Nat × OBlk,z ∈ m.set k o' → z.2.Lies → ∃ o,(z.1,o) ∈ m ∧ o.Lies := fun z hz hz2=>by
  rcases hspec z.1 z.2 hz with ⟨h1,h2⟩ | ⟨_,h1⟩
  ·exact ⟨o,by rw [h1]; exact hmem,hl (by rw [← h2]; exact hz2)⟩
  ·exact ⟨_,h1,hz2⟩
 refine ⟨g.below,g.ext,g.fresh,g.cell,fun q p hko=>?_,?_,fun x y hx hy hne hlx hly=>?_,g.fix⟩
 ·rcases hspec q p hko with ⟨rfl,rfl⟩ | ⟨hne,hm⟩
  ·exact ho (g.own q _ hmem)
  ·exact g.own q p hm
 ·have := g.keys
  rw [pairwise_keys] at this ⊢
  simpa [Mem.set_keys] using this
 ·obtain ⟨o1,h1,l1⟩ := hlies x hx hlx
  obtain ⟨o2,h2,l2⟩ := hlies y hy hly
  exact g.apart (x.1,o1) (y.1,o2) h1 h2 hne l1 l2
def mapIn (k : Nat) (kk : IntKind) (ag : Bool) (ts : List FT) (c : Conf) : Option Conf :=
 match c.mem.get k with
 | some (.map [])=>some ⟨c.top,c.rest,c.mem.set k (.mapD kk ag ts (.slc none 0 []))⟩
 | some (.map [(.int k1 n,.dat v)])=>match ag,ts with
  | false,[.slc]=>if k1 = kk then some ⟨c.top,c.rest,c.mem.set k (.mapD kk false [.slc] (.slc none 0 [[.int kk n,v]]))⟩ else none
  | _,_=>none
 | _=>none
theorem mapIn_to {P : Program} {C : Ctx} {R : Value → World → Prop} (k : Nat) (kk : IntKind) (ag : Bool) (ts : List FT) {c : Conf} (c' : Conf) (hc : mapIn k kk ag ts c = some c') (h : Runs P C c' R) : Runs P C c R := by
 intro E H w g ok
 unfold mapIn at hc
 split at hc
 ·rename_i hg
  cases hc
  exact h E H w (g.swap hg (fun h=>h) (fun _=>trivial)) ok
 ·rename_i k1 n v hg
  split at hc
  ·split at hc
   ·rename_i hk
    subst hk
    cases hc
    exact h E H w (g.swap hg (fun h=>h) (fun _=>trivial)) ok
   ·cases hc
  ·cases hc
 ·cases hc
theorem holds_need_i {P : Program} {C : Ctx} {R : Value → World → Prop} {p : Prop} {a : Tree} : (Tree.need p a).holds P C R ↔ p ∧ a.holds P C R := Iff.rfl
theorem holds_all_i {P : Program} {C : Ctx} {R : Value → World → Prop} {f : (Nat → Nat → D) → Tree} : (Tree.all f).holds P C R ↔ ∀ hs,(f hs).holds P C R := Iff.rfl
def execRS (P : Program) (cs : Ctrs) (S : List (FuncId × Nat)) (n : Nat) : Conf → Tree :=
 Nat.rec (motive := fun _=>Conf → Tree) (fun _=>.stuck) (fun _ ih c=>match atRet c with
  | true=>restC P c
  | false=>match restsAt S c with
   | true=>restC P c
   | false=>stepC P cs (fun _=>false) ih c) n
def atIn (F : List FuncId) (c : Conf) : Bool :=
 match c.rest with
 | []=>false
 | _ :: _=>match c.top.ri with
  | some _=>false
  | none=>match c.top.todo with
   | [.code _]=>F.contains c.top.fn
   | _=>false
def execRE (P : Program) (cs : Ctrs) (F : List FuncId) (n : Nat) : Conf → Tree :=
 Nat.rec (motive := fun _=>Conf → Tree) (fun _=>.stuck) (fun _ ih c=>match atRet c with
  | true=>restC P c
  | false=>match atIn F c with
   | true=>restC P c
   | false=>stepC P cs (fun _=>false) ih c) n
theorem execRE_sound {P : Program} {C : Ctx} {R : Value → World → Prop} {cs : Ctrs} (hcs : cs.Ok P) (F : List FuncId) : ∀ (n : Nat) (c : Conf),(execRE P cs F n c).holds P C R → Runs P C c R
 | 0,_,h=>h.elim
 | n + 1,c,h=>by
  have e : execRE P cs F (n + 1) c = match atRet c with
   | true=>restC P c
   | false=>match atIn F c with
    | true=>restC P c
    | false=>stepC P cs (fun _=>false) (execRE P cs F n) c := rfl
  rw [e] at h
  cases hr : atRet c with
  | true=>rw [hr] at h; exact fgtR_sound (headR_sound h)
  | false =>
   rw [hr] at h
   simp only at h
   cases hs : atIn F c with
   | true=>rw [hs] at h; exact fgtR_sound (headR_sound h)
   | false=>rw [hs] at h; exact step_sound (U := fun _=>false) (ih := execRE P cs F n) hcs (fun c h=>execRE_sound hcs F n c h) c h
section
variable {P : Program} {C : Ctx} {R : Value → World → Prop} {cs : Ctrs}
theorem execRS_sound (hcs : cs.Ok P) (S : List (FuncId × Nat)) : ∀ (n : Nat) (c : Conf),(execRS P cs S n c).holds P C R → Runs P C c R
 | 0,_,h=>h.elim
 | n + 1,c,h=>by
  have e : execRS P cs S (n + 1) c = match atRet c with
   | true=>restC P c
   | false=>match restsAt S c with
    | true=>restC P c
    | false=>stepC P cs (fun _=>false) (execRS P cs S n) c := rfl
  rw [e] at h
  cases hr : atRet c with
  | true=>rw [hr] at h; exact fgtR_sound (headR_sound h)
  | false =>
   rw [hr] at h
   simp only at h
   cases hs : restsAt S c with
   | true=>rw [hs] at h; exact fgtR_sound (headR_sound h)
   | false=>rw [hs] at h; exact step_sound (U := fun _=>false) (ih := execRS P cs S n) hcs (fun c h=>execRS_sound hcs S n c h) c h
end
end Sx
end
noncomputable section
namespace Sx
open Go RowKit
mutual
def SV.fixed : SV → Bool
 | .ptr k _=>Nat.ble PIN k
 | .mapp k=>Nat.ble PIN k
 | .sl k _=>Nat.ble PIN k
 | .vec _=>false
 | .velt ..=>false
 | .view ..=>false
 | .agg l=>SV.fixedL l
 | .tup l=>SV.fixedL l
 | .fn ..=>false
 | _=>true
def SV.fixedL : List SV → Bool
 | []=>true
 | x :: r=>SV.fixed x && SV.fixedL r
end
mutual
theorem den_fixed {E E' : Env} (hj : E'.j = E.j) (hb : ∀ k,PIN ≤ k → E'.b k = E.b k) : ∀ x : SV,x.fixed = true → x.den E' = x.den E
 | .ptr k _,h=>by simp only [SV.fixed] at h; simp only [SV.den,hb k (Nat.le_of_ble_eq_true h)]
 | .mapp k,h=>by simp only [SV.fixed] at h; simp only [SV.den,hb k (Nat.le_of_ble_eq_true h)]
 | .sl k _,h=>by simp only [SV.fixed] at h; simp only [SV.den,hb k (Nat.le_of_ble_eq_true h)]
 | .agg l,h=>by simp only [SV.fixed] at h; simp only [SV.den,denL_fixed hj hb l h]
 | .tup l,h=>by simp only [SV.fixed] at h; simp only [SV.den,denL_fixed hj hb l h]
 | .vec _,h=>by simp [SV.fixed] at h
 | .velt ..,h=>by simp [SV.fixed] at h
 | .view ..,h=>by simp [SV.fixed] at h
 | .fn ..,h=>by simp [SV.fixed] at h
 | .int ..,_=>by simp [SV.den]
 | .bool _,_=>by simp [SV.den]
 | .lb _,_=>by simp [SV.den]
 | .str _,_=>by simp [SV.den]
 | .nils,_=>by simp [SV.den]
 | .dat _,_=>by simp [SV.den]
 | .elt ..,_=>by simp [SV.den]
 | .nilp,_=>by simp [SV.den]
 | .nilf,_=>by simp [SV.den]
 | .undef,_=>by simp [SV.den]
 | .junk _,_=>by simp [SV.den,hj]
 | .raw _,_=>by simp [SV.den]
theorem denL_fixed {E E' : Env} (hj : E'.j = E.j) (hb : ∀ k,PIN ≤ k → E'.b k = E.b k) : ∀ l : List SV,SV.fixedL l = true → SV.denL E' l = SV.denL E l
 | [],_=>by simp [SV.denL]
 | x :: r,h=>by
  simp only [SV.fixedL,Bool.and_eq_true] at h
  simp only [SV.denL,den_fixed hj hb x h.1,denL_fixed hj hb r h.2]
end
section
variable {P : Program} {R : Value → World → Prop}
theorem runs_to {C : Ctx} {top : SFrm} {rest : List SFrm} {m m' : Mem} (hm : MemTo m m') (hp : (SV.fixedL top.tmps && rest.all fun f=>SV.fixedL f.tmps) = true) (h : Runs P C ⟨top,rest,m'⟩ R) : Runs P C ⟨top,rest,m⟩ R := by
 intro E H w g ok
 simp only [Bool.and_eq_true,List.all_eq_true] at hp
 obtain ⟨E',e1,e2,g'⟩ := hm C E H w g
 have hr := h E' H w g' ok
 have ht : top.den E' = top.den E := by simp only [SFrm.den,denL_fixed e1 e2 _ hp.1]
 have hrt : rest.map (SFrm.den E') = rest.map (SFrm.den E) := by
  apply List.map_congr_left
  intro f hf
  simp only [SFrm.den,denL_fixed e1 e2 _ (hp.2 f hf)]
 simp only [ht,hrt] at hr
 exact hr
theorem runs_methP {w0 : World} {H0 : HV} {f0 : Nat → Nat} {top g : SFrm} {rest : List SFrm} {mem : Mem} {Φ : SV → Mem → Prop}
  (hgp : (g.tmps.all SV.pinned && rest.all fun f=>f.tmps.all SV.pinned) = true)
  (h1 : ∀ (H : HV) (f : Nat → Nat),SV.OkL H top.tmps → Runs P (@Ctx.mk w0 H (pinX f)) ⟨top,[],mem⟩ (RetP w0 H f Φ))
  (h2 : ∀ v m,Φ v m → Runs P (@Ctx.mk w0 H0 (pinX f0)) ⟨{ g with tmps := putS g.tmps g.await v,await := none },rest,m⟩ R) :
  Runs P (@Ctx.mk w0 H0 (pinX f0)) ⟨top,g :: rest,mem⟩ R := by
 intro E H w gd ok
 simp only [Bool.and_eq_true,List.all_eq_true] at hgp
 have gd1 : Good (@Ctx.mk w0 H (pinX E.b)) mem E H w :=
  ⟨gd.below,HLe.refl _,fun _ _ _ h=>.inl h,gd.cell,fun k o h=>by have := gd.own k o h; cases o <;> exact this,gd.keys,gd.apart,⟨(fun _ _ h=>nomatch h),(fun _ h=>nomatch h),List.nodup_nil,fun f hf k _=>by cases hf; rfl⟩⟩
 have hr := h1 H E.b ok.1 E H w gd1 ⟨ok.1,by simp⟩
 rw [stkRun_eq] at hr ⊢
 simp only [List.map_nil,restOf] at hr
 simp only [List.map_cons,restOf]
 refine CFrm.run_mono hr fun u w' ⟨v,m,E1,H',hΦ,hu,g1,hpin,hv,hvj,hmj⟩=>?_
 let E2 : Env := ⟨E1.b,E1.v,E.j⟩
 have hs1 : Same 0 E1 E2 := ⟨rfl,rfl,fun i hi=>absurd hi (Nat.not_lt_zero _)⟩
 have g2 : Good ⟨w0,H⟩ m E2 H' w' := g1.same' hs1 hmj
 have hu' : u = v.den E2 := by rw [hu]; exact (den_same hs1 v hvj).symm
 have hb : ∀ k,PIN ≤ k → E2.b k = E.b k := hpin
 have g3 : Good (@Ctx.mk w0 H0 (pinX f0)) m E2 H' w' :=
  ⟨g2.below,gd.ext.trans g2.ext,fun b o x h=>by
   rcases g2.fresh b o x h with h | h
   ·exact gd.fresh b o x h
   ·exact .inr h,g2.cell,fun k o h=>by have := g2.own k o h; cases o <;> exact this,g2.keys,g2.apart,⟨(fun _ _ h=>nomatch h),(fun _ h=>nomatch h),List.nodup_nil,fun f hf k hk=>(hb k hk).trans (gd.fix.pin f hf k hk)⟩⟩
 have hgt : SV.denL E2 g.tmps = SV.denL E g.tmps := denL_pinned (E := E) (E' := E2) rfl hb _ (List.all_eq_true.2 hgp.1)
 have hrt : rest.map (SFrm.den E2) = rest.map (SFrm.den E) := by
  apply List.map_congr_left
  intro f hf
  simp only [SFrm.den]
  rw [denL_pinned (E := E) (E' := E2) rfl hb _ (List.all_eq_true.2 (hgp.2 f hf))]
 have okg : SV.OkL H' g.tmps := SV.OkL.mono g2.ext _ (ok.2 g List.mem_cons_self)
 have fin := h2 v m hΦ E2 H' w' g3 ⟨okL_putS okg hv,fun f hf=>SV.OkL.mono g2.ext _ (ok.2 f (List.mem_cons_of_mem _ hf))⟩
 simp only [SFrm.den] at fin ⊢
 rw [← put_den,hgt,← hu'] at fin
 rw [hrt] at fin
 cases rest <;> exact fin
end
end Sx
end
noncomputable section
namespace Sx
open Go RowKit
section
variable {P : Program} {R : Value → World → Prop}
theorem leaf_ret {C : Ctx} {fn : FuncId} {aw : Option Tmp} {k : List Item} {tmps : List SV} {mem : Mem} {f : Func} {l : List SV} (hfn : P.funcs[fn]? = some f) (hres : resS P mem tmps f.results.toList = some l) (h : (Tree.ret (one? l)).holds P C R) :
  (Tree.leaf ⟨⟨fn,none,aw,.code .ret :: k,tmps⟩,[],mem⟩).holds P C R :=
 runs_ret hfn hres (fun E H w g hv=>h.2 E H w (g.sub (List.nil_sublist _)) hv) h.1
end
end Sx
end
noncomputable section
namespace Sx
open Go RowKit
section
variable {P : Program} {C : Ctx} {R : Value → World → Prop} {cs : Ctrs}
end
section
variable {P : Program} {R : Value → World → Prop}
end
end Sx
end
noncomputable section
namespace Sx
open Go RowKit
def Tree.cut (t : Tree) : List Bool → Tree := Tree.rec (motive := fun _=>List Bool → Tree) (fun c _=>.leaf c) (fun v _=>.ret v)
 (fun b _ _ ht hf bs=>match bs with
  | []=>.stuck
  | true :: r=>.need (b = true) (ht r)
  | false :: r=>.need (b = false) (hf r)) (fun p _ ih bs=>.need p (ih bs)) (fun _ ih bs=>.all fun hs=>ih hs bs) (fun _=>.stuck) t
theorem cut_sound {P : Program} {C : Ctx} {R : Value → World → Prop} : ∀ {t : Tree} {bs : List Bool},(t.cut bs).holds P C R → t.holds P C R
 | .leaf _,_,h=>h
 | .ret _,_,h=>h
 | .br _ _ _,[],h=>h.elim
 | .br _ _ _,true :: _,⟨h1,h2⟩=>⟨fun _=>cut_sound h2,fun h=>(nomatch h1.symm.trans h)⟩
 | .br _ _ _,false :: _,⟨h1,h2⟩=>⟨fun h=>(nomatch h1.symm.trans h),fun _=>cut_sound h2⟩
 | .need _ _,_,⟨h1,h2⟩=>⟨h1,cut_sound h2⟩
 | .all _,_,h=>fun hs=>cut_sound (h hs)
 | .stuck,_,h=>h.elim
end Sx
end
noncomputable section
open Go Go.Proofs Sx
namespace Sv
abbrev cA (f : FuncId) (p : List Nat) := cAt Try.prog f p
abbrev oA (f : FuncId) (p : List Nat) := opsAt Try.prog f p
section
variable (n j : Int) (d e a b : D) (v s : Int)
theorem cf_in : exec Try.prog [] 200 (entry Try.prog 140 [.dat d,.fn 122 [] []]) =
 Tree.leaf
 (Conf.mk
 (SFrm.mk 140 none none
 [Item.inLoop (cAt Try.prog 140 [1,0,1,0,0]),Item.inBlock 0,Item.code (cAt Try.prog 140 [1,1])]
 (mkJ 0
 [(0,.dat d),(1,SV.fn 122 [] []),(7,.int .i64 (↑(D.len d) : Int)),(8,.int .i64 0)] 0
 19))
 [] []) := by kernel_rfl
theorem mp_in : exec Try.prog [] 200 (entry Try.prog 83 [.dat d,.fn 84 [] []]) =
 Tree.need
 ((0 : Int) ≤ 0 ∧
 0 ≤ (↑(D.len d) : Int) ∧
 (↑24 : Int) * (↑(D.len d) : Int) ≤ 281474976710656 ∧ (↑(D.len d) : Int) ≤ 9223372036854775807)
 (.all fun hs =>
 .leaf
 (Conf.mk
 (SFrm.mk 83 none none
 [Item.inLoop (cAt Try.prog 83 [1,1,0,1,0,0]),Item.inBlock 0,Item.code (cAt Try.prog 83 [1,1,1])]
 (mkJ 0
 [(1,SV.fn 84 [] []),(5,.vec 0),(11,.dat d),(12,.int .i64 (↑(D.len d) : Int)),
 (13,.int .i64 0)]
 0 25))
 [] [(0,OBlk.arr 129 (D.slc (D.hd (hs 0 0)) 1 (List.replicate 0 [D.slc none 0 []])))])) := by kernel_rfl
theorem ms_in : exec Try.prog [] 200 (entry Try.prog 133 [.dat d,.fn 134 [] []]) =
 Tree.need
 ((0 : Int) ≤ 0 ∧
 0 ≤ (↑(D.len d) : Int) ∧
 (↑8 : Int) * (↑(D.len d) : Int) ≤ 281474976710656 ∧ (↑(D.len d) : Int) ≤ 9223372036854775807)
 (.all fun hs =>
 .leaf
 (Conf.mk
 (SFrm.mk 133 none none
 [Item.inLoop (cAt Try.prog 133 [1,1,0,1,0,0]),Item.inBlock 0,Item.code (cAt Try.prog 133 [1,1,1])]
 (mkJ 0
 [(1,SV.fn 134 [] []),(5,.vec 0),(11,.dat d),(12,.int .i64 (↑(D.len d) : Int)),
 (13,.int .i64 0)]
 0 25))
 [] [(0,OBlk.arr 3 (D.slc (D.hd (hs 0 0)) 1 (List.replicate 0 [D.int .i64 0])))])) := by kernel_rfl
theorem ft_in : exec Try.prog [] 200 (entry Try.prog 114 [.dat d,.agg [.int .i64 v,.int .i64 s,.dat e]]) =
 Tree.br (decide (v < 0)) (.ret (.int .i64 7))
 (.br (decide (v ≥ (↑(D.len d) : Int))) (.ret (.int .i64 7))
 (.br (decide ((↑(D.len e) : Int) = 0)) (.ret (.int .i64 1))
 (.all fun hs =>
 .br (decide (s < 0))
 (.need (decide (s < 0) = true)
 (.need (decide (s < 0) = true)
 (.need (decide (s < 0) = true)
 (.need (decide (s < 0) = true)
 (.need (decide (s < 0) = true)
 (.need (decide (s < 0) = true)
 (.need (decide (s < 0) = true)
 (.need (decide (s < 0) = true)
 (.need (decide (s < 0) = true)
 (.need (decide (s < 0) = true)
 (.need (decide (s < 0) = true)
 (.need (decide (s < 0) = true)
 (.need (decide (s < 0) = true)
 (.need (decide (s < 0) = true) (.ret (.int .i64 2))))))))))))))))
 (.need (decide (s < 0) = false)
 (.need (decide (s < 0) = false)
 (.need (decide (s < 0) = false)
 (.need (decide (s < 0) = false)
 (.need (decide (s < 0) = false)
 (.need (decide (s < 0) = false)
 (.need (0 ≤ v ∧ v < (↑(D.len d) : Int) ∧ D.sz d = 1)
 (.need (decide (s < 0) = false)
 (.need (D.HasCell d (Int.toNat v) 0 FT.slc)
 (.need (decide (s < 0) = false)
 (.need (decide (s < 0) = false)
 (.need (decide (s < 0) = false)
 (.need (decide (s < 0) = false)
 (.need (decide (s < 0) = false)
 (.need (decide (s < 0) = false)
 (.need (decide (s < 0) = false)
 (.br
 (decide
 (s >
 IntKind.wrap .i64
 ((↑(D.len (D.cell d (Int.toNat v) 0)) : Int) - (↑(D.len e) : Int))))
 (.ret (.int .i64 2))
 (.ret (.int .i64 0)))))))))))))))))))))) := by kernel_rfl
theorem rs_in : exec Try.prog [] 200 (entry Try.prog 129 [.dat d]) =
 Tree.br (decide ((↑(D.len d) : Int) < 1)) (.ret (.int .i64 6))
 (.br (decide ((↑(D.len d) : Int) > 8)) (.ret (.int .i64 6))
 (.leaf
 (Conf.mk
 (SFrm.mk 129 none none
 [Item.inLoop (cAt Try.prog 129 [1,1,0,1,0,0]),Item.inBlock 0,Item.code (cAt Try.prog 129 [1,1,1])]
 (mkJ 0 [(0,.dat d),(3,.int .i64 0)] 0 30))
 [] []))) := by kernel_rfl
theorem rf_in : 
 let z1 : Prop := (decide (s ≥ D.getInt d (Int.toNat v) 0) = false)
 let z2 : Prop := (decide (s ≥ D.getInt d (Int.toNat v) 0) = true)
 let z3 := (D.HasCell d (Int.toNat v) 0 (FT.int .i64))
 exec Try.prog [] 200 (entry Try.prog 141 [.dat d,.agg [.int .i64 v,.int .i64 s,.dat e]]) =
 Tree.br (decide (v < 0)) (.ret (.int .i64 7)) (.br (decide (v ≥ (↑(D.len d) : Int))) (.ret (.int .i64 7)) (.br (decide ((↑(D.len e) : Int) = 0)) (.ret (.int .i64 1)) (.all fun hs=>.br (decide (s < 0))
 (.need (decide (s < 0) = true) (.need (decide (s < 0) = true) (.need (decide (s < 0) = true) (.need (decide (s < 0) = true) (.need (decide (s < 0) = true) (.need (decide (s < 0) = true) (.need (decide
 (s < 0) = true) (.need (decide (s < 0) = true) (.need (decide (s < 0) = true) (.ret (.int .i64 2))))))))))) (.br (decide (s ≥ D.getInt d (Int.toNat v) 0)) (.need (decide (s < 0) = false) (.need (decide
 (s < 0) = false) (.need (decide (s < 0) = false) (.need (decide (s < 0) = false) (.need (decide (s < 0) = false) (.need (decide (s < 0) = false) (.need (0 ≤ v ∧ v < (↑(D.len d) : Int) ∧ D.sz d = 1) (.need
 (decide (s < 0) = false) (.need z3 (.need (decide (s < 0) = false) (.need (decide (s < 0) = false) (.need z2 (.need z2 (.need z2 (.need z2 (.need z2 (.need z2 (.need z2 (.need z2 (.need z2 (.need z2 (.need z2
 (.need z2 (.need z2 (.ret (.int .i64 2)))))))))))))))))))))))))) (.need (decide (s < 0) = false) (.need (decide (s < 0) = false) (.need (decide (s < 0) = false) (.need (decide (s < 0) = false) (.need (decide
 (s < 0) = false) (.need (decide (s < 0) = false) (.need (0 ≤ v ∧ v < (↑(D.len d) : Int) ∧ D.sz d = 1) (.need (decide (s < 0) = false) (.need z3 (.need (decide (s < 0) = false) (.need (decide (s < 0) = false)
 (.need z1 (.need z1 (.need z1 (.need z1 (.need z1 (.need z1 (.need z1 (.need (0 ≤ v ∧ v < (↑(D.len d) : Int) ∧ D.sz d = 1) (.need z1 (.need z3 (.need z1 (.need z1 (.need z1 (.need z1 (.need z1 (.br (decide
 ((↑(D.len e) : Int) > IntKind.wrap .i64 (D.getInt d (Int.toNat v) 0 - s))) (.ret (.int .i64 2)) (.ret (.int .i64 0))))))))))))))))))))))))))))))))) := by
 intros; kernel_rfl
end
def cfL (d : D) (j : Int) : Conf := Conf.mk (SFrm.mk 140 none none [Item.inLoop (cA 140 [1,0,1,0,0]),Item.inBlock 0,Item.code (cA 140 [1,1])]
 (mkJ 0 [(0,.dat d),(1,.fn 122 [] []),(7,.int .i64 d.len),(8,.int .i64 j)] 0 19)) [] []
def mpL (d o : D) (j : Int) : Conf := Conf.mk (SFrm.mk 83 none none [Item.inLoop (cA 83 [1,1,0,1,0,0]),Item.inBlock 0,Item.code (cA 83 [1,1,1])]
 (mkJ 0 [(1,.fn 84 [] []),(5,.vec 0),(11,.dat d),(12,.int .i64 d.len),(13,.int .i64 j)] 0 25)) [] [(0,.arr 129 o)]
def msL (d o : D) (j : Int) : Conf := Conf.mk (SFrm.mk 133 none none [Item.inLoop (cA 133 [1,1,0,1,0,0]),Item.inBlock 0,Item.code (cA 133 [1,1,1])]
 (mkJ 0 [(1,.fn 134 [] []),(5,.vec 0),(11,.dat d),(12,.int .i64 d.len),(13,.int .i64 j)] 0 25)) [] [(0,.arr 3 o)]
def rsL (d : D) (j : Int) : Conf := Conf.mk (SFrm.mk 129 none none [Item.inLoop (cA 129 [1,1,0,1,0,0]),Item.inBlock 0,Item.code (cA 129 [1,1,1])]
 (mkJ 0 [(0,.dat d),(3,.int .i64 j)] 0 30)) [] []
section
variable (n j : Int) (d e a b o : D) (v s : Int)
theorem cf_go : exec Try.prog [] 200 (unroll (cfL d j)) =
 Tree.br (decide (j < (↑(D.len d) : Int)))
 (.need (0 ≤ j ∧ j < (↑(D.len d) : Int) ∧ D.sz d = 1)
 (.need (D.HasCell d (Int.toNat j) 0 (FT.int .i64))
 (.br (decide (D.getInt d (Int.toNat j) 0 < 1)) (.ret (.int .i64 j))
 (.br (decide (D.getInt d (Int.toNat j) 0 > 4096)) (.ret (.int .i64 j))
 (.leaf
 (Conf.mk
 (SFrm.mk 140 none none
 [Item.inLoop (cA 140 [1,0,1,0,0]),Item.inBlock 0,Item.code (cA 140 [1,1])]
 (mkJ 0
 [(0,.dat d),(1,SV.fn 122 [] []),(7,.int .i64 (↑(D.len d) : Int)),
 (8,.int .i64 (IntKind.wrap .i64 (j + 1)))]
 0 19))
 [] []))))))
 (.ret (.int .i64 (Int.neg 1))) := by kernel_rfl
theorem mp_go : exec Try.prog [] 200 (unroll (mpL d o j)) =
 Tree.br (decide (j < (↑(D.len d) : Int)))
 (.need (0 ≤ j ∧ j < (↑(D.len d) : Int) ∧ D.sz d = 1)
 (.need (D.HasCell d (Int.toNat j) 0 (FT.int .i64))
 (.need
 (0 ≤ D.getInt d (Int.toNat j) 0 ∧
 D.getInt d (Int.toNat j) 0 = D.getInt d (Int.toNat j) 0 ∧
 (↑8 : Int) * D.getInt d (Int.toNat j) 0 ≤ 281474976710656 ∧
 D.getInt d (Int.toNat j) 0 ≤ 9223372036854775807)
 (.all fun hs =>
 .all fun hs_1 =>
 .need
 (D.sz o = 1 ∧
 D.Fits
 (D.slc (D.hd (hs_1 0 0)) 1
 [[D.slc (D.hd (hs 0 0)) 8
 (List.replicate (Int.toNat (D.getInt d (Int.toNat j) 0))
 [D.int .u8 0,D.int .u8 0,D.int .u8 0,D.int .u8 0,
 D.int .u8 0,D.int .u8 0,D.int .u8 0,D.int .u8 0])]])
 1 ∧
 (D.len o +
 D.len
 (D.slc (D.hd (hs_1 0 0)) 1
 [[D.slc (D.hd (hs 0 0)) 8
 (List.replicate (Int.toNat (D.getInt d (Int.toNat j) 0))
 [D.int .u8 0,D.int .u8 0,D.int .u8 0,D.int .u8 0,
 D.int .u8 0,D.int .u8 0,D.int .u8 0,
 D.int .u8 0])]])) *
 24 ≤
 140737488355328 ∧
 D.len o +
 D.len
 (D.slc (D.hd (hs_1 0 0)) 1
 [[D.slc (D.hd (hs 0 0)) 8
 (List.replicate (Int.toNat (D.getInt d (Int.toNat j) 0))
 [D.int .u8 0,D.int .u8 0,D.int .u8 0,D.int .u8 0,
 D.int .u8 0,D.int .u8 0,D.int .u8 0,
 D.int .u8 0])]]) ≤
 9223372036854775807)
 (.all fun hs_2 =>
 .leaf
 (Conf.mk
 (SFrm.mk 83 none none
 [Item.inLoop (cA 83 [1,1,0,1,0,0]),Item.inBlock 0,
 Item.code (cA 83 [1,1,1])]
 (mkJ 0
 [(1,SV.fn 84 [] []),(5,.vec 0),(11,.dat d),
 (12,.int .i64 (↑(D.len d) : Int)),
 (13,.int .i64 (IntKind.wrap .i64 (j + 1)))]
 0 25))
 []
 [(0,
 OBlk.arr 129
 (D.slc (D.hd (hs_2 0 0)) 1
 (List.append (D.rows o)
 (D.rows
 (D.slc (D.hd (hs_1 0 0)) 1
 [[D.slc (D.hd (hs 0 0)) 8
 (List.replicate (Int.toNat (D.getInt d (Int.toNat j) 0))
 [D.int .u8 0,D.int .u8 0,D.int .u8 0,
 D.int .u8 0,D.int .u8 0,D.int .u8 0,
 D.int .u8 0,D.int .u8 0])]])))))]))))))
 (.ret (.dat o)) := by kernel_rfl
theorem ms_go : exec Try.prog [] 200 (unroll (msL d o j)) =
 Tree.br (decide (j < (↑(D.len d) : Int)))
 (.need (0 ≤ j ∧ j < (↑(D.len d) : Int) ∧ D.sz d = 1)
 (.need (D.HasCell d (Int.toNat j) 0 FT.slc)
 (.all fun hs =>
 .need
 (D.sz o = 1 ∧
 D.Fits (D.slc (D.hd (hs 0 0)) 1 [[D.int .i64 (↑(D.len (D.cell d (Int.toNat j) 0)) : Int)]]) 1 ∧
 (D.len o +
 D.len
 (D.slc (D.hd (hs 0 0)) 1 [[D.int .i64 (↑(D.len (D.cell d (Int.toNat j) 0)) : Int)]])) *
 8 ≤
 140737488355328 ∧
 D.len o +
 D.len (D.slc (D.hd (hs 0 0)) 1 [[D.int .i64 (↑(D.len (D.cell d (Int.toNat j) 0)) : Int)]]) ≤
 9223372036854775807)
 (.all fun hs_1 =>
 .leaf
 (Conf.mk
 (SFrm.mk 133 none none
 [Item.inLoop (cA 133 [1,1,0,1,0,0]),Item.inBlock 0,
 Item.code (cA 133 [1,1,1])]
 (mkJ 0
 [(1,SV.fn 134 [] []),(5,.vec 0),(11,.dat d),(12,.int .i64 (↑(D.len d) : Int)),
 (13,.int .i64 (IntKind.wrap .i64 (j + 1)))]
 0 25))
 []
 [(0,
 OBlk.arr 3
 (D.slc (D.hd (hs_1 0 0)) 1
 (List.append (D.rows o)
 (D.rows
 (D.slc (D.hd (hs 0 0)) 1
 [[D.int .i64 (↑(D.len (D.cell d (Int.toNat j) 0)) : Int)]])))))])))))
 (.ret (.dat o)) := by kernel_rfl
theorem rs_go : exec Try.prog [] 200 (unroll (rsL d j)) =
 Tree.br (decide (j < (↑(D.len d) : Int)))
 (.need (0 ≤ j ∧ j < (↑(D.len d) : Int) ∧ D.sz d = 1)
 (.need (D.HasCell d (Int.toNat j) 0 (FT.int .i64))
 (.br (decide (D.getInt d (Int.toNat j) 0 < 1)) (.ret (.int .i64 2))
 (.need (0 ≤ j ∧ j < (↑(D.len d) : Int) ∧ D.sz d = 1)
 (.need (D.HasCell d (Int.toNat j) 0 (FT.int .i64))
 (.br (decide (D.getInt d (Int.toNat j) 0 > 4096)) (.ret (.int .i64 2))
 (.leaf
 (Conf.mk
 (SFrm.mk 129 none none
 [Item.inLoop (cA 129 [1,1,0,1,0,0]),Item.inBlock 0,
 Item.code (cA 129 [1,1,1])]
 (mkJ 0 [(0,.dat d),(3,.int .i64 (IntKind.wrap .i64 (j + 1)))] 0 30))
 [] []))))))))
 (.ret (.int .i64 0)) := by kernel_rfl
end
theorem lawIdx : Law Try.prog 140 ((rdD.two (rdFn 122)).sp spIdxBad) := by
 refine law_in _ (by kernel_rfl) fun H w ⟨d,u⟩ hok hp=>?_
 obtain ⟨hd,hlen⟩ := hp _ (List.mem_singleton.2 rfl)
 simp only at hd hlen
 rw [D.Is.length (α := Int)] at hlen
 apply exec_sound (noCtr _) 200
 rw [show (rdD.two (rdFn 122)).canon (d,u) = [.dat d,.fn 122 [] []] from rfl,cf_in]
 refine runs_loop (fun j : Nat=>cfL d j) (fun j=>j ≤ (d.to Int).length ∧ ((d.to Int).take j).findIdx? badSize = none) (fun j=>(d.to Int).length - j) (fun _=>rfl) ?_ 0 ⟨Nat.zero_le _,by simp⟩
 intro j ⟨hj,hpre⟩ ih
 apply exec_sound (noCtr _) 200
 rw [cf_go]
 have hl := D.Is.length (α := Int) d
 have found : ∀ hc : j < (d.to Int).length,badSize (d.to Int)[j] = true → (d.to Int).findIdx? badSize = some j := by
  intro hc hb
  rw [List.findIdx?_eq_some_iff_getElem]
  refine ⟨hc,hb,fun i hi=>?_⟩
  rw [List.findIdx?_eq_none_iff] at hpre
  have := hpre (d.to Int)[i] (List.mem_take_iff_getElem.2 ⟨i,by omega,rfl⟩)
  simp [this]
 refine ⟨fun hc=>?_,fun hc=>?_⟩
 ·simp [hl] at hc
  obtain ⟨c1,c2,c3⟩ := int_at hd hc
  rw [c3]
  refine ⟨c1,c2,fun hc2=>ret_int ?_,fun hc2=>⟨fun hc3=>ret_int ?_,fun hc3=>?_⟩⟩
  ·simp only [idxP,found hc (by simp [badSize,hc2])]
  ·simp only [idxP,found hc (by simp [badSize,hc3])]
  ·have := ih (j + 1) ⟨hc,by rw [List.take_succ_eq_append_getElem hc,List.findIdx?_append,hpre]; simp at hc2 hc3; simp [badSize]; omega⟩ (by omega)
   rw [← wrap_succ hc hlen] at this
   exact this
 ·simp [hl] at hc
  have : j = (d.to Int).length := by omega
  subst this
  rw [List.take_length] at hpre
  exact ret_int (by simp only [idxP,hpre]; rfl)
theorem lawMapN : Law Try.prog 83 ((rdD.two (rdFn 84)).sp spMapN) := by
 refine law_in _ (by kernel_rfl) fun H w ⟨d,u⟩ hok hp=>?_
 obtain ⟨hd,hlen,hn⟩ := hp _ (List.mem_singleton.2 rfl)
 simp only at hd hlen hn
 have hl := D.Is.length (α := Int) d
 apply exec_sound (noCtr _) 200
 rw [show (rdD.two (rdFn 84)).canon (d,u) = [.dat d,.fn 84 [] []] from rfl,mp_in]
 refine ⟨⟨by omega,by omega,by omega,by omega⟩,fun hs=>?_⟩
 refine runs_loop (fun p : D × Nat=>mpL d p.1 p.2) (fun p=>p.2 ≤ (d.to Int).length ∧ p.1.Is Vol ∧ p.1.sz = 1 ∧ p.1.to Vol = ((d.to Int).take p.2).map volOf) (fun p=>(d.to Int).length - p.2) (fun _=>rfl) ?_
  (.slc (D.hd (hs 0 0)) 1 [],0) ⟨Nat.zero_le _,is_nil _ _,rfl,rfl⟩
 intro ⟨o,j⟩ ⟨hj,ho,hz,hto⟩ ih
 simp only at hj ho hz hto
 have hol := D.Is.length (α := Vol) o
 rw [hto] at hol
 simp only [List.length_map,List.length_take] at hol
 apply exec_sound (noCtr _) 200
 rw [mp_go]
 refine ⟨fun hc=>?_,fun hc=>?_⟩
 ·simp [hl] at hc
  obtain ⟨c1,c2,c3⟩ := int_at hd hc
  have hb := hn _ (List.getElem_mem hc)
  rw [c3]
  refine ⟨c1,c2,⟨hb.1,rfl,by omega,by omega⟩,fun hs1 hs2=>⟨⟨hz,.inr rfl,by simp only [len_slc,List.length_cons,List.length_nil]; omega,by simp only [len_slc,List.length_cons,List.length_nil]; omega⟩,fun hs3=>?_⟩⟩
  obtain ⟨z1,z2⟩ := zvol_is (D.hd (hs1 0 0)) (d.to Int)[j]
  have hr := rows_app (rows_of ho) (vol_one z1)
  obtain ⟨i1,i2⟩ := is_of (h := D.hd (hs3 0 0)) (s := 1) rfl hr
  have := ih (_,j + 1) ⟨hc,i1,rfl,i2.trans (by rw [hto,map_take_snoc _ hc,z2]; rfl)⟩ (by simp only; omega)
  simp only at this
  rw [← wrap_succ hc (by omega)] at this
  exact this
 ·simp [hl] at hc
  have : j = (d.to Int).length := by omega
  subst this
  rw [List.take_length] at hto
  exact ret_one (stands_dat ho hto) rfl
theorem lawMapS : Law Try.prog 133 ((rdD.two (rdFn 134)).sp spMapS) := by
 refine law_in _ (by kernel_rfl) fun H w ⟨d,u⟩ hok hp=>?_
 obtain ⟨hd,hlen⟩ := hp _ (List.mem_singleton.2 rfl)
 simp only at hd hlen
 have hl := D.Is.length (α := Vol) d
 apply exec_sound (noCtr _) 200
 rw [show (rdD.two (rdFn 134)).canon (d,u) = [.dat d,.fn 134 [] []] from rfl,ms_in]
 refine ⟨⟨by omega,by omega,by omega,by omega⟩,fun hs=>?_⟩
 refine runs_loop (fun p : D × Nat=>msL d p.1 p.2) (fun p=>p.2 ≤ (d.to Vol).length ∧ p.1.Is Int ∧ p.1.sz = 1 ∧ p.1.to Int = volSizes ((d.to Vol).take p.2)) (fun p=>(d.to Vol).length - p.2) (fun _=>rfl) ?_
  (.slc (D.hd (hs 0 0)) 1 [],0) ⟨Nat.zero_le _,is_nil _ _,rfl,rfl⟩
 intro ⟨o,j⟩ ⟨hj,ho,hz,hto⟩ ih
 simp only at hj ho hz hto
 have hol := D.Is.length (α := Int) o
 rw [hto] at hol
 simp only [volSizes,List.length_map,List.length_take] at hol
 apply exec_sound (noCtr _) 200
 rw [ms_go]
 refine ⟨fun hc=>?_,fun hc=>?_⟩
 ·simp [hl] at hc
  obtain ⟨c1,c2,c3⟩ := vol_cell hd hc
  refine ⟨⟨by omega,by omega,hd.size hc⟩,c1,fun hs1=>⟨⟨hz,.inr rfl,by simp only [len_slc,List.length_cons,List.length_nil]; omega,by simp only [len_slc,List.length_cons,List.length_nil]; omega⟩,fun hs3=>?_⟩⟩
  have hr := rows_app (rows_of ho) (int_one (D.len (D.cell d j 0)))
  obtain ⟨i1,i2⟩ := is_of (h := D.hd (hs3 0 0)) (s := 1) rfl hr
  have := ih (_,j + 1) ⟨hc,i1,rfl,i2.trans (by rw [hto]; unfold volSizes; rw [map_take_snoc _ hc,c3,D.Is.length (α := Sec)])⟩ (by simp only; omega)
  simp only at this
  rw [← wrap_succ hc (by omega)] at this
  exact this
 ·simp [hl] at hc
  have : j = (d.to Vol).length := by omega
  subst this
  rw [List.take_length] at hto
  exact ret_one (stands_dat ho hto) rfl
theorem lawSizesR : Law Try.prog 129 (rdD.one.sp spSizes) := by
 refine law_in _ (by kernel_rfl) fun H w d hok hp=>?_
 obtain ⟨hd,hlen⟩ := hp _ (List.mem_singleton.2 rfl)
 have hl := D.Is.length (α := Int) d
 apply exec_sound (noCtr _) 200
 rw [show rdD.one.canon d = [.dat d] from rfl,rs_in]
 refine ⟨fun hc=>ret_int ?_,fun hc=>⟨fun hc2=>ret_int ?_,fun hc2=>?_⟩⟩
 ·simp [hl] at hc; unfold sizesErr; rw [if_pos (by omega)]
 ·simp [hl] at hc2; unfold sizesErr; rw [if_pos (by omega)]
 simp only [decide_eq_false_iff_not] at hc hc2
 have h6 : ¬((d.to Int).length < 1 ∨ (d.to Int).length > 8) := by omega
 refine runs_loop (fun j : Nat=>rsL d j) (fun j=>j ≤ (d.to Int).length ∧ ((d.to Int).take j).any badSize = false) (fun j=>(d.to Int).length - j) (fun _=>rfl) ?_ 0 ⟨Nat.zero_le _,by simp⟩
 intro j ⟨hj,hpre⟩ ih
 apply exec_sound (noCtr _) 200
 rw [rs_go]
 have bad : ∀ hc : j < (d.to Int).length,badSize (d.to Int)[j] = true → 2 = sizesErr (d.to Int) := fun hc hb=>by
  unfold sizesErr
  rw [if_neg h6,if_pos (List.any_eq_true.2 ⟨_,List.getElem_mem hc,hb⟩)]
 refine ⟨fun hc=>?_,fun hc=>ret_int ?_⟩
 ·simp [hl] at hc
  obtain ⟨c1,c2,c3⟩ := int_at hd hc
  rw [c3]
  refine ⟨c1,c2,fun h1=>ret_int (bad hc (by simp [badSize,h1])),fun h1=>⟨c1,c2,fun h2=>ret_int (bad hc (by simp [badSize,h2])),fun h2=>?_⟩⟩
  have := ih (j + 1) ⟨hc,by rw [List.take_succ_eq_append_getElem hc,List.any_append,hpre]; simp [badSize]; simp at h1 h2; omega⟩ (by omega)
  rw [← wrap_succ hc (by omega)] at this
  exact this
 ·simp [hl] at hc
  have : j = (d.to Int).length := by omega
  subst this
  rw [List.take_length] at hpre
  unfold sizesErr
  rw [if_neg h6,if_neg (by simp [hpre])]
theorem lawFits1 : Law Try.prog 114 ((rdD.two rdWt).sp spFits1) := by
 refine law_in _ (by kernel_rfl) fun H w ⟨d,⟨v,s,e⟩⟩ hok hp=>?_
 obtain ⟨⟨hd,hlen,hv⟩,he,hel⟩ := hp _ (List.mem_singleton.2 rfl)
 simp only at hd hlen hv he hel
 have hl := D.Is.length (α := Vol) d
 have hl2 := D.Is.length (α := Sec) e
 have hvl : (volSizes (d.to Vol)).length = (d.to Vol).length := by simp [volSizes]
 apply exec_sound (noCtr _) 200
 rw [show (rdD.two rdWt).canon (d,⟨v,s,e⟩) = [.dat d,.agg [.int .i64 v,.int .i64 s,.dat e]] from rfl,ft_in]
 have f1 : (v < 0 ∨ v ≥ ((d.to Vol).length : Int)) → 7 = fitsErr (volSizes (d.to Vol)) (WtD.wt ⟨v,s,e⟩) := fun h=>by rw [fitsErr_wt,hvl,if_pos h]
 refine ⟨fun h1=>ret_int (f1 (.inl (of_decide_eq_true h1))),fun h1=>⟨fun h2=>ret_int (f1 (.inr (by have := of_decide_eq_true h2; omega))),fun h2=>?_⟩⟩
 have h1' := of_decide_eq_false h1
 have h2' := of_decide_eq_false h2
 have hc : ¬(v < 0 ∨ v ≥ ((d.to Vol).length : Int)) := by omega
 obtain ⟨y,rfl⟩ := Int.eq_ofNat_of_zero_le (show 0 ≤ v by omega)
 have hy : y < (d.to Vol).length := by omega
 obtain ⟨c1,c2,c3⟩ := vol_cell hd hy
 have hvy := hv _ (List.getElem_mem hy)
 have hls := D.Is.length (α := Sec) (d.cell y 0)
 rw [c3] at hvy
 simp only at hvy
 have hg : (volSizes (d.to Vol)).getD (Int.toNat (y : Int)) 0 = ((d.cell y 0).len : Int) := by
  simp only [Int.toNat_natCast,volSizes]
  rw [getD_lt (by simpa using hy)]
  simp only [List.getElem_map,c3,hls]
 have ef : fitsErr (volSizes (d.to Vol)) (WtD.wt ⟨y,s,e⟩) = if (e.to Sec).length = 0 then 1 else if s < 0 ∨ s > ((d.cell y 0).len : Int) - (e.to Sec).length then 2 else 0 := by
  rw [fitsErr_wt,hvl,if_neg hc,hg]
 refine ⟨fun h3=>ret_int ?_,fun h3 hs=>?_⟩
 ·have := of_decide_eq_true h3; rw [ef,if_pos (by omega)]
 have h3' := of_decide_eq_false h3
 have e0 : ¬(e.to Sec).length = 0 := by omega
 rw [if_neg e0] at ef
 refine ⟨fun h4=>?_,fun h4=>?_⟩
 ·have h4' := of_decide_eq_true h4
  rw [if_pos (.inl h4')] at ef
  repeat' first
  | exact h4
  | exact ret_int ef.symm
  | refine ⟨?_,?_⟩
 ·have h4' := of_decide_eq_false h4
  have hw : IntKind.i64.wrap (((d.cell (Int.toNat (y : Int)) 0).len : Int) - (e.len : Int)) = ((d.cell y 0).len : Int) - (e.to Sec).length := by
   simp only [Int.toNat_natCast]; rw [wrap64 (by omega) (by omega),hl2]
  have i0 : 0 ≤ (y : Int) ∧ (y : Int) < (d.len : Int) ∧ d.sz = 1 := ⟨by omega,by omega,hd.size hy⟩
  have fin : ((Tree.br (decide (s > IntKind.i64.wrap (((d.cell (Int.toNat (y : Int)) 0).len : Int) - (e.len : Int)))) (Tree.ret (SV.int .i64 2)) (Tree.ret (SV.int .i64 0))).holds Try.prog ⟨w,H⟩ (RetS w H (.int .i64 (fitsErr (volSizes (d.to Vol)) (WtD.wt ⟨y,s,e⟩))))) := by
   refine ⟨fun h5=>ret_int ?_,fun h5=>ret_int ?_⟩
   ·have := of_decide_eq_true h5; rw [hw] at this; rw [ef,if_pos (.inr this)]
   ·have := of_decide_eq_false h5; rw [hw] at this; rw [ef,if_neg (by omega)]
  repeat' first
  | exact h4
  | exact i0
  | exact c1
  | exact fin
  | refine ⟨?_,?_⟩
theorem lawFitsR : Law Try.prog 141 ((rdD.two rdWt).sp spFitsR) := by
 refine law_in _ (by kernel_rfl) fun H w ⟨d,⟨v,s,e⟩⟩ hok hp=>?_
 obtain ⟨hd,hlen,hv,he,hel⟩ := hp _ (List.mem_singleton.2 rfl)
 simp only at hd hlen hv he hel
 have hl := D.Is.length (α := Int) d
 have hl2 := D.Is.length (α := Sec) e
 apply exec_sound (noCtr _) 200
 rw [show (rdD.two rdWt).canon (d,⟨v,s,e⟩) = [.dat d,.agg [.int .i64 v,.int .i64 s,.dat e]] from rfl,rf_in]
 have f1 : (v < 0 ∨ v ≥ ((d.to Int).length : Int)) → 7 = fitsErr (d.to Int) (WtD.wt ⟨v,s,e⟩) := fun h=>by rw [fitsErr_wt,if_pos h]
 refine ⟨fun h1=>ret_int (f1 (.inl (of_decide_eq_true h1))),fun h1=>⟨fun h2=>ret_int (f1 (.inr (by have := of_decide_eq_true h2; omega))),fun h2=>?_⟩⟩
 have h1' := of_decide_eq_false h1
 have h2' := of_decide_eq_false h2
 have hc : ¬(v < 0 ∨ v ≥ ((d.to Int).length : Int)) := by omega
 obtain ⟨y,rfl⟩ := Int.eq_ofNat_of_zero_le (show 0 ≤ v by omega)
 have hy : y < (d.to Int).length := by omega
 obtain ⟨c1,c2,c3⟩ := int_at hd hy
 have hvy := hv _ (List.getElem_mem hy)
 have hg : (d.to Int).getD (Int.toNat (y : Int)) 0 = (d.to Int)[y] := by simp [hy]
 have ef : fitsErr (d.to Int) (WtD.wt ⟨y,s,e⟩) = if (e.to Sec).length = 0 then 1 else if s < 0 ∨ s > (d.to Int)[y] - (e.to Sec).length then 2 else 0 := by
  rw [fitsErr_wt,if_neg hc,hg]
 refine ⟨fun h3=>ret_int ?_,fun h3 hs=>?_⟩
 ·have := of_decide_eq_true h3; rw [ef,if_pos (by omega)]
 have h3' := of_decide_eq_false h3
 have e0 : ¬(e.to Sec).length = 0 := by omega
 rw [if_neg e0] at ef
 rw [c3]
 refine ⟨fun h4=>?_,fun h4=>⟨fun h5=>?_,fun h5=>?_⟩⟩
 ·rw [if_pos (.inl (of_decide_eq_true h4))] at ef
  repeat' first
  | exact h4
  | exact ret_int ef.symm
  | refine ⟨?_,?_⟩
 ·rw [if_pos (.inr (by have := of_decide_eq_true h5; omega))] at ef
  repeat' first
  | exact h4
  | exact h5
  | exact c1
  | exact c2
  | exact ret_int ef.symm
  | refine ⟨?_,?_⟩
 ·have h4' := of_decide_eq_false h4
  have h5' := of_decide_eq_false h5
  have hw : IntKind.i64.wrap ((d.to Int)[y] - s) = (d.to Int)[y] - s := wrap64 (by omega) (by omega)
  have fin : ((Tree.br (decide ((e.len : Int) > IntKind.i64.wrap ((d.to Int)[y] - s))) (Tree.ret (SV.int .i64 2)) (Tree.ret (SV.int .i64 0))).holds Try.prog ⟨w,H⟩ (RetS w H (.int .i64 (fitsErr (d.to Int) (WtD.wt ⟨y,s,e⟩))))) := by
   refine ⟨fun h6=>ret_int ?_,fun h6=>ret_int ?_⟩
   ·have := of_decide_eq_true h6; rw [hw] at this; rw [ef,if_pos (by omega)]
   ·have := of_decide_eq_false h6; rw [hw] at this; rw [ef,if_neg (by omega)]
  repeat' first
  | exact h4
  | exact h5
  | exact c1
  | exact c2
  | exact fin
  | refine ⟨?_,?_⟩
section
variable (n j k w : Int) (d e a b i o ha hb hc ga gb gc : D) (v s : Int)
theorem any_in : exec Try.prog [(140,ctrOf ((rdD.two (rdFn 122)).sp spIdxBad))] 200 (entry Try.prog 121 [.dat d,.fn 122 [] []]) =
 Tree.need (D.Is Int d ∧ D.len d ≤ 1048576) (.ret (.bool (decide (idxP (D.to Int d) badSize ≥ 0)))) := by kernel_rfl
theorem cs_in : exec Try.prog [(121,ctrOf ((rdD.two (rdFn 122)).sp spAnyBad))] 200 (entry Try.prog 82 [.dat d]) =
 Tree.br (decide ((↑(D.len d) : Int) < 1)) (.ret (.int .i64 6))
 (.br (decide ((↑(D.len d) : Int) > 8)) (.ret (.int .i64 6))
 (.need (D.Is Int d ∧ D.len d ≤ 1048576)
 (.br (List.any (D.to Int d) badSize) (.ret (.int .i64 2)) (.ret (.int .i64 0))))) := by kernel_rfl
theorem new_in : exec Try.prog [(82,ctrOf (rdD.one.sp spSizes)),(83,ctrOf ((rdD.two (rdFn 84)).sp spMapN))] 200 (entry Try.prog 37 [.dat d]) =
 Tree.need (D.Is Int d ∧ D.len d ≤ 1048576)
 (.br (sizesErr (D.to Int d) != 0) (.ret (SV.tup [.nils,.int .i64 (sizesErr (D.to Int d))]))
 (.need (D.Is Int d ∧ D.len d ≤ 8 ∧ ∀ (n : Int),List.Mem n (D.to Int d) → 0 ≤ n ∧ n ≤ 4096)
 (.all fun hs =>
 .ret (SV.tup [.dat (D.like (hs 0 0) (List.map volOf (D.to Int d))),.int .i64 0])))) := by kernel_rfl
theorem sz_in : exec Try.prog [(133,ctrOf ((rdD.two (rdFn 134)).sp spMapS))] 200 (entry Try.prog 109 [.dat d]) =
 Tree.need (D.Is Vol d ∧ D.len d ≤ 1048576)
 (.all fun hs=>.ret (.dat (D.like (hs 0 0) (volSizes (D.to Vol d))))) := by kernel_rfl
theorem chk_in : exec Try.prog [(109,ctrOf (rdD.one.sp spSzs)),(82,ctrOf (rdD.one.sp spSizes))] 200 (entry Try.prog 72 [.dat d]) =
 Tree.need (D.Is Vol d ∧ D.len d ≤ 1048576)
 (.all fun hs =>
 .need
 (D.Is Int (D.like (hs 0 0) (volSizes (D.to Vol d))) ∧ D.len (D.like (hs 0 0) (volSizes (D.to Vol d))) ≤ 1048576)
 (.ret (.int .i64 (sizesErr (D.to Int (D.like (hs 0 0) (volSizes (D.to Vol d)))))))) := by kernel_rfl
theorem fits_in : exec Try.prog [(72,ctrOf (rdD.one.sp spChkI)),(114,ctrOf ((rdD.two rdWt).sp spFits1))] 200 (entry Try.prog 138 [.dat d,.agg [.int .i64 v,.int .i64 s,.dat e]]) =
 Tree.need (D.Is Vol d ∧ D.len d ≤ 1048576)
 (.br (sizesErr (volSizes (D.to Vol d)) != 0) (.ret (.int .i64 (sizesErr (volSizes (D.to Vol d)))))
 (.need (ImgOk d ∧ WtD.Ok (WtD.mk v s e))
 (.ret (.int .i64 (fitsErr (volSizes (D.to Vol d)) (WtD.wt (WtD.mk v s e))))))) := by kernel_rfl
end
section
variable (n j k w : Int) (d e a b i o ha hb hc : D) (v s : Int)
end
theorem ctIdxOk : Ctrs.Ok Try.prog [(140,ctrOf ((rdD.two (rdFn 122)).sp spIdxBad))] := by
 intro x hx; rw [List.mem_singleton.1 hx]; exact ctrOf_ok lawIdx
theorem lawAny : Law Try.prog 121 ((rdD.two (rdFn 122)).sp spAnyBad) := by
 refine law_in _ (by kernel_rfl) fun H w ⟨d,u⟩ hok hp=>?_
 apply exec_sound ctIdxOk 200
 rw [show (rdD.two (rdFn 122)).canon (d,u) = [.dat d,.fn 122 [] []] from rfl,any_in]
 exact ⟨hp _ (List.mem_singleton.2 rfl),ret_bool (idxP_any _ _)⟩
theorem ctAnyOk : Ctrs.Ok Try.prog [(121,ctrOf ((rdD.two (rdFn 122)).sp spAnyBad))] := by
 intro x hx; rw [List.mem_singleton.1 hx]; exact ctrOf_ok lawAny
theorem lawSizes : Law Try.prog 82 (rdD.one.sp spSizes) := by
 refine law_in _ (by kernel_rfl) fun H w d hok hp=>?_
 obtain ⟨hd,hlen⟩ := hp _ (List.mem_singleton.2 rfl)
 have hl := D.Is.length (α := Int) d
 apply exec_sound ctAnyOk 200
 rw [show rdD.one.canon d = [.dat d] from rfl,cs_in]
 refine ⟨fun hc=>ret_int ?_,fun hc=>⟨fun hc2=>ret_int ?_,fun hc2=>⟨⟨hd,hlen⟩,fun h=>ret_int ?_,fun h=>ret_int ?_⟩⟩⟩
 ·have := of_decide_eq_true hc; unfold sizesErr; rw [if_pos (by omega)]
 ·have := of_decide_eq_true hc2; unfold sizesErr; rw [if_pos (by omega)]
 ·have := of_decide_eq_false hc; have := of_decide_eq_false hc2; unfold sizesErr; rw [if_neg (by omega),if_pos h]
 ·have := of_decide_eq_false hc; have := of_decide_eq_false hc2; unfold sizesErr; rw [if_neg (by omega),if_neg (by simp [h])]
theorem ctNewOk : Ctrs.Ok Try.prog [(82,ctrOf (rdD.one.sp spSizes)),(83,ctrOf ((rdD.two (rdFn 84)).sp spMapN))] := by
 intro x hx
 rcases List.mem_cons.1 hx with rfl | hx
 ·exact ctrOf_ok lawSizes
 ·rw [List.mem_singleton.1 hx]; exact ctrOf_ok lawMapN
theorem lawNewI : Law Try.prog 37 (rdD.one.sp spNewI) := by
 refine law_in _ (by kernel_rfl) fun H w d hok hp=>?_
 obtain ⟨hd,hlen⟩ := hp _ (List.mem_singleton.2 rfl)
 have hl := D.Is.length (α := Int) d
 apply exec_sound ctNewOk 200
 rw [show rdD.one.canon d = [.dat d] from rfl,new_in]
 refine ⟨⟨hd,hlen⟩,fun h=>?_,fun h=>?_⟩
 ·refine ret_oneI stands_nils ?_ rfl
  unfold imgOf
  rw [if_pos (by simpa using h)]
 ·have h0 : sizesErr (d.to Int) = 0 := by simpa using h
  obtain ⟨s1,s2,s3⟩ := sizesErr_ok h0
  refine ⟨⟨hd,by omega,fun n hn=>by have := s3 n hn; omega⟩,fun hs=>ret_oneI stands_like ?_ h0.symm⟩
  unfold imgOf
  rw [if_neg (by simp [h0])]
theorem ctSzOk : Ctrs.Ok Try.prog [(133,ctrOf ((rdD.two (rdFn 134)).sp spMapS))] := by
 intro x hx; rw [List.mem_singleton.1 hx]; exact ctrOf_ok lawMapS
theorem lawSzs : Law Try.prog 109 (rdD.one.sp spSzs) := by
 refine law_in _ (by kernel_rfl) fun H w d hok hp=>?_
 apply exec_sound ctSzOk 200
 rw [show rdD.one.canon d = [.dat d] from rfl,sz_in]
 exact ⟨hp _ (List.mem_singleton.2 rfl),fun hs=>ret_one stands_like rfl⟩
theorem ctChkOk : Ctrs.Ok Try.prog [(109,ctrOf (rdD.one.sp spSzs)),(82,ctrOf (rdD.one.sp spSizes))] := by
 intro x hx
 rcases List.mem_cons.1 hx with rfl | hx
 ·exact ctrOf_ok lawSzs
 ·rw [List.mem_singleton.1 hx]; exact ctrOf_ok lawSizes
theorem lawChkI : Law Try.prog 72 (rdD.one.sp spChkI) := by
 refine law_in _ (by kernel_rfl) fun H w d hok hp=>?_
 obtain ⟨hd,hlen⟩ := hp _ (List.mem_singleton.2 rfl)
 have hl := D.Is.length (α := Vol) d
 apply exec_sound ctChkOk 200
 rw [show rdD.one.canon d = [.dat d] from rfl,chk_in]
 refine ⟨⟨hd,hlen⟩,fun hs=>⟨⟨D.like_is _ _,?_⟩,ret_int (by rw [D.like_to])⟩⟩
 rw [D.Is.length (α := Int),D.like_to]; simp only [volSizes,List.length_map]; omega
theorem ctFitsOk : Ctrs.Ok Try.prog [(72,ctrOf (rdD.one.sp spChkI)),(114,ctrOf ((rdD.two rdWt).sp spFits1))] := by
 intro x hx
 rcases List.mem_cons.1 hx with rfl | hx
 ·exact ctrOf_ok lawChkI
 ·rw [List.mem_singleton.1 hx]; exact ctrOf_ok lawFits1
theorem lawFitsI : Law Try.prog 138 ((rdD.two rdWt).sp spFitsI) := by
 refine law_in _ (by kernel_rfl) fun H w ⟨d,⟨v,s,e⟩⟩ hok hp=>?_
 obtain ⟨hd,he⟩ := hp _ (List.mem_singleton.2 rfl)
 apply exec_sound ctFitsOk 200
 rw [show (rdD.two rdWt).canon (d,⟨v,s,e⟩) = [.dat d,.agg [.int .i64 v,.int .i64 s,.dat e]] from rfl,fits_in]
 refine ⟨⟨hd.1,hd.2.1⟩,fun h=>ret_int ?_,fun h=>⟨⟨hd,he⟩,ret_int ?_⟩⟩
 ·unfold fitsI; rw [if_pos (by simpa using h)]
 ·unfold fitsI; rw [if_neg (by simpa using h)]
def ctCo : Ctrs := [(37,ctrOf (rdD.one.sp spNewI)),(138,ctrOf ((rdD.two rdWt).sp spFitsI))]
def ctCy : Ctrs := [(37,ctrOf (rdD.one.sp spNewI)),(111,ctrOf ((rdD.two rdInt).sp spPosL)),(112,ctrOf ((rdD.two rdD).sp spCo))]
def ctCoR : Ctrs := [(129,ctrOf (rdD.one.sp spSizes)),(141,ctrOf ((rdD.two rdWt).sp spFitsR))]
def ctCyR : Ctrs := [(129,ctrOf (rdD.one.sp spSizes)),(130,ctrOf (rdD.one.sp spPos)),(131,ctrOf ((rdD.two rdD).sp spCo))]
section
variable (d e p q s : D) (b n t b' n' t' : Int)
theorem coa_in : goS Try.prog ctCo (fun _=>false) [(112,15)] 300 (entry Try.prog 112 [.dat d,.dat s]) =
 Tree.need (D.Is Int s ∧ D.len s ≤ 1048576)
 (.all fun hs =>
 .br (sizesErr (D.to Int s) != 0) (.ret (.int .i64 (sizesErr (D.to Int s))))
 (.leaf
 (Conf.mk
 (SFrm.mk 112 none none
 [Item.code (cA 112 [1,1,1,0]),Item.code (cA 112 [1,1,0,1,0,1])]
 (mkJ 0 [(0,.dat d),(5,.ptr 0 0)] 0 18))
 [] [(0,OBlk.cells 23 [.dat (D.like (hs 0 0) (imgOf (D.to Int s)))])]))) := by kernel_rfl
theorem cyc_in : exec Try.prog ctCy 300 (entry Try.prog 73 [.agg [.int .i64 b,.int .i64 n,.int .i64 t,.dat p,.dat q],.dat s]) =
 Tree.need (D.Is Int s ∧ D.len s ≤ 1048576)
 (.all fun hs =>
 .br (sizesErr (D.to Int s) != 0) (.ret (.int .i64 (sizesErr (D.to Int s))))
 (.br (decide (b < 0)) (.ret (.int .i64 2))
 (.br (decide (n ≤ b)) (.ret (.int .i64 2))
 (.br (decide (n > 1073741824)) (.ret (.int .i64 2))
 (.br (decide (t ≥ 0))
 (.br (!decide (t ≤ 1073741824)) (.ret (.int .i64 24))
 (.need (D.Is Int p ∧ D.len p ≤ 1048576)
 (.br (posL (D.to Int p) 0 != 0) (.ret (.int .i64 (posL (D.to Int p) 0)))
 (.need
 (D.Is Wt q ∧
 D.len q ≤ 1048576 ∧
 (∀ (w : Wt),List.Mem w (D.to Wt q) → List.length (Wt.data w) ≤ 1048576) ∧
 D.Is Int s ∧ D.len s ≤ 1048576)
 (.ret (.int .i64 (coErr (D.to Wt q) (D.to Int s))))))))
 (.ret (.int .i64 24))))))) := by kernel_rfl
theorem r22_in : exec Try.prog ctCoR 300 (entry Try.prog 131 [.dat d,.dat s]) =
 Tree.need (D.Is Int s ∧ D.len s ≤ 1048576)
 (.br (sizesErr (D.to Int s) != 0) (.ret (.int .i64 (sizesErr (D.to Int s))))
 (.leaf
 (Conf.mk
 (SFrm.mk 131 none none
 [Item.inLoop (cA 131 [1,1,0,1,0,0]),Item.inBlock 0,Item.code (cA 131 [1,1,1])]
 (mkJ 0 [(0,.dat d),(1,.dat s),(6,.int .i64 0)] 0 69))
 [] []))) := by kernel_rfl
theorem rpo_in : exec Try.prog [] 300 (entry Try.prog 130 [.dat d]) =
 Tree.leaf
 (Conf.mk
 (SFrm.mk 130 none none
 [Item.inLoop (cA 130 [1,0,1,0,0]),Item.inBlock 0,Item.code (cA 130 [1,1])]
 (mkJ 0 [(0,.dat d),(3,.int .i64 0)] 0 22))
 [] []) := by kernel_rfl
theorem rcy_in : exec Try.prog ctCyR 300 (entry Try.prog 102 [.agg [.int .i64 b,.int .i64 n,.int .i64 t,.dat p,.dat q],.dat s]) =
 Tree.need (D.Is Int s ∧ D.len s ≤ 1048576)
 (.br (sizesErr (D.to Int s) != 0) (.ret (.int .i64 (sizesErr (D.to Int s))))
 (.br (decide (b < 0)) (.ret (.int .i64 2))
 (.br (decide (n ≤ b)) (.ret (.int .i64 2))
 (.br (decide (n > 1073741824)) (.ret (.int .i64 2))
 (.br (decide (t < 0)) (.ret (.int .i64 24))
 (.br (decide (t > 1073741824)) (.ret (.int .i64 24))
 (.br (decide ((↑(D.len p) : Int) > 8)) (.ret (.int .i64 6))
 (.need (D.Is Int p ∧ D.len p ≤ 1048576)
 (.br (posT (D.to Int p) != 0) (.ret (.int .i64 (posT (D.to Int p))))
 (.need
 (D.Is Wt q ∧
 D.len q ≤ 1048576 ∧
 (∀ (w : Wt),List.Mem w (D.to Wt q) → List.length (Wt.data w) ≤ 1048576) ∧
 D.Is Int s ∧ D.len s ≤ 1048576)
 (.ret (.int .i64 (coErr (D.to Wt q) (D.to Int s)))))))))))))) := by kernel_rfl
theorem few22_in : exec Try.prog [] 300 (entry Try.prog 40 [.dat d]) =
 Tree.leaf
 (Conf.mk
 (SFrm.mk 40 none none
 [Item.inLoop (cA 40 [1,0,1,0,0]),Item.inBlock 0,Item.code (cA 40 [1,1])]
 (mkJ 0 [(0,.dat d),(3,.int .i64 0)] 0 24))
 [] []) := by kernel_rfl
theorem most_in : exec Try.prog [] 600 (entry Try.prog 103 []) =
 Tree.leaf
 (Conf.mk
 (SFrm.mk 103 none none
 [Item.inLoop (cA 103 [1,1,0,1,0,0]),Item.inBlock 0,Item.code (cA 103 [1,1,1])]
 (mkJ 0 [(1,.nils),(2,.int .i64 0)] 0 11))
 [] []) := by kernel_rfl
theorem off_in : exec Try.prog [] 300 (entry Try.prog 66 [.dat d]) =
 Tree.leaf
 (Conf.mk
 (SFrm.mk 66 none none
 [Item.inLoop (cA 66 [1,1,0,1,0,0]),Item.inBlock 0,Item.code (cA 66 [1,1,1])]
 (mkJ 0 [(3,.nils),(6,.dat d),(7,.int .i64 (↑(D.len d) : Int)),(8,.int .i64 0)] 0 19))
 [] []) := by kernel_rfl
end
def coA (d im : D) : Conf := Conf.mk (SFrm.mk 112 none none [Item.code (cA 112 [1,1,1,0]),Item.code (cA 112 [1,1,0,1,0,1])] (mkJ 0 [(0,.dat d),(5,.ptr 0 0)] 0 18)) [] [(0,OBlk.cells 23 [.dat im])]
section
variable (d im : D)
theorem coa2_in : exec Try.prog ctCo 300 (coA d im) =
 Tree.leaf
 (Conf.mk
 (SFrm.mk 136 none none
 [Item.inLoop (cA 136 [1,0,1,0,0]),Item.inBlock 0,Item.code (cA 136 [1,1])]
 (mkJ 1
 [(0,.dat d),(1,SV.fn 137 [] [.ptr 0 0]),(9,.dat d),(10,.int .i64 (↑(D.len d) : Int)),
 (11,.int .i64 0)]
 0 53))
 [SFrm.mk 112 (some (oA 112 [1,1,1,0],[3])) (some 17)
 [Item.code (cA 112 [1,1,0,1,0,1])]
 (mkJ 0 [(0,.dat d),(5,.ptr 0 0),(15,.dat d),(16,SV.fn 137 [] [.ptr 0 0])] 0 18)]
 [(0,OBlk.cells 23 [.dat im])]) := by kernel_rfl
end
def r22L (d s : D) (j : Int) : Conf := Conf.mk (SFrm.mk 131 none none [Item.inLoop (cA 131 [1,1,0,1,0,0]),Item.inBlock 0,Item.code (cA 131 [1,1,1])] (mkJ 0 [(0,.dat d),(1,.dat s),(6,.int .i64 j)] 0 69)) [] []
def rpoL (d : D) (j : Int) : Conf := Conf.mk (SFrm.mk 130 none none [Item.inLoop (cA 130 [1,0,1,0,0]),Item.inBlock 0,Item.code (cA 130 [1,1])] (mkJ 0 [(0,.dat d),(3,.int .i64 j)] 0 22)) [] []
def few22L (d : D) (j : Int) : Conf := Conf.mk (SFrm.mk 40 none none [Item.inLoop (cA 40 [1,0,1,0,0]),Item.inBlock 0,Item.code (cA 40 [1,1])] (mkJ 0 [(0,.dat d),(3,.int .i64 j)] 0 24)) [] []
def mostL (q : D) (j : Int) : Conf := Conf.mk (SFrm.mk 103 none none [Item.inLoop (cA 103 [1,1,0,1,0,0]),Item.inBlock 0,Item.code (cA 103 [1,1,1])] (mkJ 0 [(1,.vec 0),(2,.int .i64 j)] 0 11)) [] [(0,.arr 3 q)]
def offL (d q : D) (j : Int) : Conf := Conf.mk (SFrm.mk 66 none none [Item.inLoop (cA 66 [1,1,0,1,0,0]),Item.inBlock 0,Item.code (cA 66 [1,1,1])] (mkJ 0 [(3,.vec 0),(6,.dat d),(7,.int .i64 (d.len : Int)),(8,.int .i64 j)] 0 19)) [] [(0,.arr 3 q)]
section
variable (d s im q : D) (j e1 e2 e3 : Int) (v : Bool) (h : SV)
theorem r22_go : 
 let z1 := (Int.toNat (IntKind.wrap .i64 (j - 1)))
 let z2 : Prop := (decide (D.getInt d (Int.toNat j) 0 < D.getInt d z1 0) = false)
 let z3 : Prop := (decide (D.getInt d (Int.toNat j) 0 = D.getInt d z1 0) = false)
 let z4 : Prop := (decide (D.getInt d (Int.toNat j) 0 = D.getInt d z1 0) = true)
 let z5 : Prop := (decide (D.getInt d (Int.toNat j) 0 < D.getInt d z1 0) = true)
 let z6 : Tree := (.leaf (Conf.mk (SFrm.mk 131 none none [Item.inLoop (cA 131 [1,1,0,1,0,0]),Item.inBlock 0,Item.code (cA 131 [1,1,1])] (mkJ 0 [(0,.dat d),(1,.dat s),(6,.int .i64 (IntKind.wrap .i64 (j + 1)))] 0 69)) [] []))
 let z7 := (WtD.mk (D.getInt d (Int.toNat j) 0) (D.getInt d (Int.toNat j) 1) (D.cell d (Int.toNat j) 2))
 let z8 := (D.HasCell d (Int.toNat j) 0 (FT.int .i64))
 exec Try.prog ctCoR 300 (unroll (r22L d s j)) =
 Tree.br (decide (j < (↑(D.len d) : Int))) (.need (0 ≤ j ∧ j < (↑(D.len d) : Int) ∧ D.sz d = 3) (.need (D.HasCells d (Int.toNat j) 0 [FT.int .i64,FT.int .i64,FT.slc]) (.need (D.Is Int s ∧ D.len s ≤ 1048576 ∧
 (∀ (n : Int),List.Mem n (D.to Int s) → 1 ≤ n ∧ n ≤ 4096) ∧ WtD.Ok z7) (.br (fitsErr (D.to Int s) (WtD.wt z7) != 0) (.ret (.int .i64 (fitsErr (D.to Int s) (WtD.wt z7)))) (.br (decide (j = 0)) z6 (.need
 (0 ≤ IntKind.wrap .i64 (j - 1) ∧ IntKind.wrap .i64 (j - 1) < (↑(D.len d) : Int) ∧ D.sz d = 3) (.need (D.HasCells d z1 0 [FT.int .i64,FT.int .i64,FT.slc]) (.all fun hs=>.br (decide (D.getInt d (Int.toNat j) 0 < D.getInt d z1 0))
 (.need (0 ≤ j ∧ j < (↑(D.len d) : Int) ∧ D.sz d = 3) (.need z8 (.need z5 (.need z5 (.need z5 (.need z5 (.need z5 (.need z5 (.need z5 (.need z5 (.need z5 (.need z5 (.need z5 (.ret (.int .i64 3)))))))))))))))
 (.br (decide (D.getInt d (Int.toNat j) 0 = D.getInt d z1 0)) (.need (0 ≤ j ∧ j < (↑(D.len d) : Int) ∧ D.sz d = 3) (.need z8 (.need z2 (.need z2 (.need z2 (.need (0 ≤ j ∧ j < (↑(D.len d) : Int) ∧ D.sz d = 3)
 (.need z2 (.need z2 (.need z8 (.need z2 (.need z2 (.need z2 (.need z2 (.need z4 (.need z4 (.need z4 (.need (0 ≤ j ∧ j < (↑(D.len d) : Int) ∧ D.sz d = 3) (.need z4 (.need z4 (.need (D.HasCell d (Int.toNat j) 1
 (FT.int .i64)) (.need z4 (.need z4 (.need z4 (.need z4 (.need z4 (.need z4 (.need z4 (.need z4 (.need z2 (.need z4 (.need z2 (.br (decide (D.getInt d (Int.toNat j) 1 < IntKind.wrap .i64 (IntKind.wrap .i64
 (D.getInt d z1 1 + (↑(D.len (D.cell d z1 2)) : Int)) + 1))) (.ret (.int .i64 3)) z6)))))))))))))))))))))))))))))))) (.need (0 ≤ j ∧ j < (↑(D.len d) : Int) ∧ D.sz d = 3) (.need z8 (.need z2 (.need z2 (.need z2
 (.need (0 ≤ j ∧ j < (↑(D.len d) : Int) ∧ D.sz d = 3) (.need z2 (.need z2 (.need z8 (.need z2 (.need z2 (.need z2 (.need z2 (.need z3 (.need z3 (.need z3 (.need z3 (.need z3 (.need z3 (.need z3 (.need z3
 (.need z3 (.need z3 (.need z3 (.need z3 (.need z3 (.need z2 (.need z3 (.need z2 z6)))))))))))))))))))))))))))))))))))))) (.ret (.int .i64 0)) := by
 intros; kernel_rfl
theorem rpo_go : exec Try.prog [] 300 (unroll (rpoL d j)) =
 Tree.br (decide (j < (↑(D.len d) : Int)))
 (.need (0 ≤ j ∧ j < (↑(D.len d) : Int) ∧ D.sz d = 1)
 (.need (D.HasCell d (Int.toNat j) 0 (FT.int .i64))
 (.br (decide (D.getInt d (Int.toNat j) 0 < 0)) (.ret (.int .i64 2))
 (.need (0 ≤ j ∧ j < (↑(D.len d) : Int) ∧ D.sz d = 1)
 (.need (D.HasCell d (Int.toNat j) 0 (FT.int .i64))
 (.br (decide (D.getInt d (Int.toNat j) 0 > 1073741824)) (.ret (.int .i64 2))
 (.leaf
 (Conf.mk
 (SFrm.mk 130 none none
 [Item.inLoop (cA 130 [1,0,1,0,0]),Item.inBlock 0,
 Item.code (cA 130 [1,1])]
 (mkJ 0 [(0,.dat d),(3,.int .i64 (IntKind.wrap .i64 (j + 1)))] 0 22))
 [] []))))))))
 (.ret (.int .i64 0)) := by kernel_rfl
theorem few22_go : exec Try.prog [] 300 (unroll (few22L d j)) =
 Tree.br (decide (j < (↑(D.len d) : Int)))
 (.br (decide (j < 60))
 (.need (0 ≤ j ∧ j < (↑(D.len d) : Int) ∧ D.sz d = 3)
 (.need (D.HasCell d (Int.toNat j) 2 FT.slc)
 (.br (decide ((↑(D.len (D.cell d (Int.toNat j) 2)) : Int) > 24)) (.ret (.lb false))
 (.leaf
 (Conf.mk
 (SFrm.mk 40 none none
 [Item.inLoop (cA 40 [1,0,1,0,0]),Item.inBlock 0,Item.code (cA 40 [1,1])]
 (mkJ 0 [(0,.dat d),(3,.int .i64 (IntKind.wrap .i64 (j + 1)))] 0 24))
 [] [])))))
 (.ret (.bool (decide ((↑(D.len d) : Int) ≤ 40)))))
 (.ret (.bool (decide ((↑(D.len d) : Int) ≤ 40)))) := by kernel_rfl
theorem most_go : exec Try.prog [] 300 (unroll (mostL q j)) =
 Tree.br (decide (j < 8))
 (.all fun hs =>
 .need
 (D.sz q = 1 ∧
 D.Fits (D.slc (D.hd (hs 0 0)) 1 [[D.int .i64 4096]]) 1 ∧
 (D.len q + D.len (D.slc (D.hd (hs 0 0)) 1 [[D.int .i64 4096]])) * 8 ≤ 140737488355328 ∧
 D.len q + D.len (D.slc (D.hd (hs 0 0)) 1 [[D.int .i64 4096]]) ≤ 9223372036854775807)
 (.all fun hs_1 =>
 .leaf
 (Conf.mk
 (SFrm.mk 103 none none
 [Item.inLoop (cA 103 [1,1,0,1,0,0]),Item.inBlock 0,
 Item.code (cA 103 [1,1,1])]
 (mkJ 0 [(1,.vec 0),(2,.int .i64 (IntKind.wrap .i64 (j + 1)))] 0 11))
 []
 [(0,
 OBlk.arr 3
 (D.slc (D.hd (hs_1 0 0)) 1
 (List.append (D.rows q) (D.rows (D.slc (D.hd (hs 0 0)) 1 [[D.int .i64 4096]])))))])))
 (.ret (.dat q)) := by kernel_rfl
theorem off_go : exec Try.prog [] 300 (unroll (offL d q j)) =
 Tree.br (decide (j < (↑(D.len d) : Int)))
 (.need (0 ≤ j ∧ j < (↑(D.len d) : Int) ∧ D.sz d = 5)
 (.need
 (D.HasCells d (Int.toNat j) 0 [FT.int .i64,FT.int .i64,FT.int .i64,FT.slc,FT.slc])
 (.all fun hs =>
 .need
 (D.sz q = 1 ∧
 D.Fits (D.slc (D.hd (hs 0 0)) 1 [[D.int .i64 (D.getInt d (Int.toNat j) 1)]]) 1 ∧
 (D.len q + D.len (D.slc (D.hd (hs 0 0)) 1 [[D.int .i64 (D.getInt d (Int.toNat j) 1)]])) * 8 ≤
 140737488355328 ∧
 D.len q + D.len (D.slc (D.hd (hs 0 0)) 1 [[D.int .i64 (D.getInt d (Int.toNat j) 1)]]) ≤
 9223372036854775807)
 (.all fun hs_1 =>
 .leaf
 (Conf.mk
 (SFrm.mk 66 none none
 [Item.inLoop (cA 66 [1,1,0,1,0,0]),Item.inBlock 0,
 Item.code (cA 66 [1,1,1])]
 (mkJ 0
 [(3,.vec 0),(6,.dat d),(7,.int .i64 (↑(D.len d) : Int)),
 (8,.int .i64 (IntKind.wrap .i64 (j + 1)))]
 0 19))
 []
 [(0,
 OBlk.arr 3
 (D.slc (D.hd (hs_1 0 0)) 1
 (List.append (D.rows q)
 (D.rows (D.slc (D.hd (hs 0 0)) 1 [[D.int .i64 (D.getInt d (Int.toNat j) 1)]])))))])))))
 (.ret (.dat q)) := by kernel_rfl
end
end Sv
end
noncomputable section
open Go Go.Proofs Sx
namespace Sx
theorem any_take_succ {α : Type} {l : List α} {f : α → Bool} {j : Nat} (hj : j < l.length) : (l.take (j + 1)).any f = ((l.take j).any f || f l[j]) := by
 rw [List.take_succ_eq_append_getElem hj,List.any_append]; simp
end Sx
namespace Sv
theorem lawPosR : Law Try.prog 130 (rdD.one.sp spPos) := by
 refine law_in _ (by kernel_rfl) fun H w d hok hp=>?_
 obtain ⟨hd,hlen⟩ := hp _ (List.mem_singleton.2 rfl)
 have hl := D.Is.length (α := Int) d
 apply exec_sound (noCtr _) 300
 rw [show rdD.one.canon d = [.dat d] from rfl,rpo_in]
 refine runs_loop (fun j : Nat=>rpoL d j) (fun j=>j ≤ (d.to Int).length ∧ ((d.to Int).take j).any badTime = false) (fun j=>(d.to Int).length - j) (fun _=>rfl) ?_ 0 ⟨Nat.zero_le _,by simp⟩
 intro j ⟨hj,hpre⟩ ih
 apply exec_sound (noCtr _) 300
 rw [rpo_go]
 have bad : ∀ hc : j < (d.to Int).length,badTime (d.to Int)[j] = true → posT (d.to Int) = 2 := fun hc hb=>by
  unfold posT
  rw [if_pos (List.any_eq_true.2 ⟨_,List.getElem_mem hc,hb⟩)]
 refine ⟨fun hc=>?_,fun hc=>?_⟩
 ·have hc : j < (d.to Int).length := by have := of_decide_eq_true hc; omega
  obtain ⟨c1,c2,c3⟩ := int_at hd hc
  rw [c3]
  refine ⟨c1,c2,fun h1=>ret_int ?_,fun h1=>⟨c1,c2,fun h2=>ret_int ?_,fun h2=>?_⟩⟩
  ·exact (bad hc (by unfold badTime; rw [h1]; rfl)).symm
  ·exact (bad hc (by unfold badTime; rw [h2]; simp)).symm
  ·have := ih (j + 1) ⟨hc,by rw [any_take_succ hc,hpre]; unfold badTime; rw [h1,h2]; rfl⟩ (by omega)
   rw [← wrap_succ hc (by omega)] at this
   exact this
 ·have : j = (d.to Int).length := by have := of_decide_eq_false hc; omega
  subst this
  rw [List.take_length] at hpre
  exact ret_int (by unfold posT; rw [if_neg (by simp [hpre])])
theorem lawMostR : Law Try.prog 103 (rdNone.sp spMost) := by
 refine law_in _ (by kernel_rfl) fun H w _ hok hp=>?_
 apply exec_sound (noCtr _) 600
 rw [show rdNone.canon _ = [] from rfl,most_in]
 refine vecIn_to 0 3 1 none 1 (mostL (.slc none 1 []) 0) (by kernel_rfl) ?_
 refine runs_loop (fun p : D × Nat=>mostL p.1 p.2) (fun p=>p.2 ≤ 8 ∧ p.1.Is Int ∧ p.1.sz = 1 ∧ p.1.to Int = List.replicate p.2 4096) (fun p=>8 - p.2) (fun _=>rfl) ?_ (.slc none 1 [],0) ⟨Nat.zero_le _,is_nil _ _,rfl,rfl⟩
 intro ⟨o,j⟩ ⟨hj,ho,hz,hto⟩ ih
 simp only at hj ho hz hto
 have hol := D.Is.length (α := Int) o
 rw [hto,List.length_replicate] at hol
 apply exec_sound (noCtr _) 300
 rw [most_go]
 refine ⟨fun hc hs1=>⟨⟨hz,.inr rfl,by simp only [len_slc,List.length_cons,List.length_nil]; omega,by simp only [len_slc,List.length_cons,List.length_nil]; omega⟩,fun hs3=>?_⟩,fun hc=>?_⟩
 ·have hc : j < 8 := by have := of_decide_eq_true hc; omega
  have hr := rows_app (rows_of ho) (int_one 4096)
  obtain ⟨i1,i2⟩ := is_of (h := D.hd (hs3 0 0)) (s := 1) rfl hr
  have := ih (_,j + 1) ⟨hc,i1,rfl,i2.trans (by rw [hto,List.replicate_succ'])⟩ (by simp only; omega)
  simp only at this
  rw [← wrap_succ hc (by omega)] at this
  exact this
 ·have : j = 8 := by have := of_decide_eq_false hc; omega
  subst this
  exact ret_one (stands_dat ho hto) rfl
theorem lawFewWR : Law Try.prog 40 (rdD.one.sp spFewW) := by
 refine law_in _ (by kernel_rfl) fun H w d hok hp=>?_
 have hd : d.Is Wt := hp _ (List.mem_singleton.2 rfl)
 have hl := D.Is.length (α := Wt) d
 apply exec_sound (noCtr _) 300
 rw [show rdD.one.canon d = [.dat d] from rfl,few22_in]
 refine runs_loop (fun j : Nat=>few22L d j) (fun j=>j ≤ 60 ∧ j ≤ (d.to Wt).length ∧ ((d.to Wt).take j).any (fun w=>decide (w.data.length > 24)) = false) (fun j=>(d.to Wt).length - j) (fun _=>rfl) ?_ 0 ⟨Nat.zero_le _,Nat.zero_le _,by simp⟩
 intro j ⟨hj6,hj,hpre⟩ ih
 apply exec_sound (noCtr _) 300
 rw [few22_go]
 have done : ((d.to Wt).take 60).any (fun w=>decide (w.data.length > 24)) = false → (Tree.ret (SV.bool (decide ((d.len : Int) ≤ 40)))).holds Try.prog ⟨w,H⟩ (RetS w H (.bool (fewW (d.to Wt)))) := fun h=>ret_bool (by
  unfold fewW
  rw [h]
  simp only [Bool.not_false,Bool.true_and]
  apply decide_eq_decide.2; omega)
 refine ⟨fun hc=>⟨fun h6=>?_,fun h6=>done ?_⟩,fun hc=>done ?_⟩
 ·have hc : j < (d.to Wt).length := by have := of_decide_eq_true hc; omega
  have h6 := of_decide_eq_true h6
  obtain ⟨c1,c2,c3⟩ := wt_cell hd hc
  have dl : (d.cell j 2).len = ((d.to Wt)[j]).data.length := by
   rw [D.Is.length (α := Sec),c3]
  rw [Int.toNat_natCast]
  refine ⟨⟨by omega,by omega,hd.size hc⟩,c1.2.2.1,fun h1=>ret_lb ?_,fun h1=>?_⟩
  ·have h1 := of_decide_eq_true h1
   unfold fewW
   have : ((d.to Wt).take 60).any (fun w=>decide (w.data.length > 24)) = true := List.any_eq_true.2 ⟨(d.to Wt)[j],List.mem_take_iff_getElem.2 ⟨j,by omega,rfl⟩,decide_eq_true (by omega)⟩
   rw [this]; rfl
  ·have h1 := of_decide_eq_false h1
   have := ih (j + 1) ⟨by omega,hc,by rw [any_take_succ hc,hpre]; simp; omega⟩ (by omega)
   rw [← wrap_succ (n := 60) (by omega) (by omega)] at this
   exact this
 ·have h6 := of_decide_eq_false h6
  have : j = 60 := by omega
  subst this
  exact hpre
 ·have : j = (d.to Wt).length := by have := of_decide_eq_false hc; omega
  subst this
  rw [List.take_of_length_le (by omega)]
  rw [List.take_length] at hpre
  exact hpre
theorem lawOff : Law Try.prog 66 (rdD.one.sp spOff) := by
 refine law_in _ (by kernel_rfl) fun H w d hok hp=>?_
 obtain ⟨hd,hlen⟩ := hp _ (List.mem_singleton.2 rfl)
 have hl := D.Is.length (α := Cy) d
 apply exec_sound (noCtr _) 300
 rw [show rdD.one.canon d = [.dat d] from rfl,off_in]
 refine vecIn_to 0 3 1 none 3 (offL d (.slc none 1 []) 0) (by kernel_rfl) ?_
 refine runs_loop (fun p : D × Nat=>offL d p.1 p.2) (fun p=>p.2 ≤ (d.to Cy).length ∧ p.1.Is Int ∧ p.1.sz = 1 ∧ p.1.to Int = ((d.to Cy).take p.2).map Cy.number) (fun p=>(d.to Cy).length - p.2) (fun _=>rfl) ?_ (.slc none 1 [],0) ⟨Nat.zero_le _,is_nil _ _,rfl,rfl⟩
 intro ⟨o,j⟩ ⟨hj,ho,hz,hto⟩ ih
 simp only at hj ho hz hto
 have hol := D.Is.length (α := Int) o
 rw [hto] at hol
 simp only [List.length_map,List.length_take] at hol
 apply exec_sound (noCtr _) 300
 rw [off_go]
 refine ⟨fun hc=>?_,fun hc=>?_⟩
 ·have hc : j < (d.to Cy).length := by have := of_decide_eq_true hc; omega
  obtain ⟨c1,_,_,c3⟩ := cy_cell hd hc
  refine ⟨⟨by omega,by omega,hd.size hc⟩,c1,fun hs1=>⟨⟨hz,.inr rfl,by simp only [len_slc,List.length_cons,List.length_nil]; omega,by simp only [len_slc,List.length_cons,List.length_nil]; omega⟩,fun hs3=>?_⟩⟩
  have hr := rows_app (rows_of ho) (int_one (d.getInt j 1))
  obtain ⟨i1,i2⟩ := is_of (h := D.hd (hs3 0 0)) (s := 1) rfl hr
  have := ih (_,j + 1) ⟨hc,i1,rfl,i2.trans (by rw [hto,map_take_snoc _ hc,c3]; rfl)⟩ (by simp only; omega)
  simp only at this
  rw [← wrap_succ hc (by omega)] at this
  exact this
 ·have : j = (d.to Cy).length := by have := of_decide_eq_false hc; omega
  subst this
  rw [List.take_length] at hto
  exact ret_one (stands_dat ho hto) rfl
end Sv
end
noncomputable section
open Go Go.Proofs Sx
namespace Sv
def coaL (d im : D) (j : Int) : Conf := Conf.mk (SFrm.mk 136 none none [Item.inLoop (cA 136 [1,0,1,0,0]),Item.inBlock 0,Item.code (cA 136 [1,1])] (mkJ 1 [(0,.dat d),(1,SV.fn 137 [] [.ptr 0 0]),(9,.dat d),(10,.int .i64 (d.len : Int)),(11,.int .i64 j)] 0 53)) [SFrm.mk 112 (some (oA 112 [1,1,1,0],[3])) (some 17) [Item.code (cA 112 [1,1,0,1,0,1])] (mkJ 0 [(0,.dat d),(5,.ptr 0 0),(15,.dat d),(16,SV.fn 137 [] [.ptr 0 0])] 0 18)] [(0,OBlk.cells 23 [.dat im])]
def cpoL (d : D) (j : Int) : Conf := Conf.mk (SFrm.mk 140 none none [Item.inLoop (cA 140 [1,0,1,0,0]),Item.inBlock 0,Item.code (cA 140 [1,1])] (mkJ 0 [(0,.dat d),(1,SV.fn 135 [] []),(7,.int .i64 (d.len : Int)),(8,.int .i64 j)] 0 19)) [] []
section
variable (d im : D) (j n : Int)
theorem coa_go : exec Try.prog ctCo 300 (unroll (coaL d im j)) =
 Tree.br (decide (j < (↑(D.len d) : Int)))
 (.need (0 ≤ j ∧ j < (↑(D.len d) : Int) ∧ D.sz d = 3)
 (.need (D.HasCells d (Int.toNat j) 0 [FT.int .i64,FT.int .i64,FT.slc])
 (.need
 (ImgOk im ∧
 WtD.Ok (WtD.mk (D.getInt d (Int.toNat j) 0) (D.getInt d (Int.toNat j) 1) (D.cell d (Int.toNat j) 2)))
 (.br
 (fitsI (D.to Vol im)
 (WtD.wt (WtD.mk (D.getInt d (Int.toNat j) 0) (D.getInt d (Int.toNat j) 1) (D.cell d (Int.toNat j) 2))) !=
 0)
 (.ret
 (.int .i64
 (fitsI (D.to Vol im)
 (WtD.wt
 (WtD.mk (D.getInt d (Int.toNat j) 0) (D.getInt d (Int.toNat j) 1) (D.cell d (Int.toNat j) 2))))))
 (.br (decide (j = 0))
 (.leaf
 (Conf.mk
 (SFrm.mk 136 none none
 [Item.inLoop (cA 136 [1,0,1,0,0]),Item.inBlock 0,Item.code (cA 136 [1,1])]
 (mkJ 1
 [(0,.dat d),(1,SV.fn 137 [] [.ptr 0 0]),(9,.dat d),
 (10,.int .i64 (↑(D.len d) : Int)),
 (11,.int .i64 (IntKind.wrap .i64 (j + 1)))]
 0 53))
 [SFrm.mk 112 (some (oA 112 [1,1,1,0],[3])) (some 17)
 [Item.code (cA 112 [1,1,0,1,0,1])]
 (mkJ 0 [(0,.dat d),(5,.ptr 0 0),(15,.dat d),(16,SV.fn 137 [] [.ptr 0 0])] 0 18)]
 [(0,OBlk.cells 23 [.dat im])]))
 (.need
 (0 ≤ IntKind.wrap .i64 (j - 1) ∧
 IntKind.wrap .i64 (j - 1) < (↑(D.len d) : Int) ∧ D.sz d = 3)
 (.need
 (D.HasCells d (Int.toNat (IntKind.wrap .i64 (j - 1))) 0
 [FT.int .i64,FT.int .i64,FT.slc])
 (.br
 (decide (D.getInt d (Int.toNat j) 0 < D.getInt d (Int.toNat (IntKind.wrap .i64 (j - 1))) 0))
 (.ret (.int .i64 3))
 (.br
 (decide (D.getInt d (Int.toNat j) 0 = D.getInt d (Int.toNat (IntKind.wrap .i64 (j - 1))) 0))
 (.br
 (decide
 (D.getInt d (Int.toNat j) 1 ≤
 IntKind.wrap .i64
 (D.getInt d (Int.toNat (IntKind.wrap .i64 (j - 1))) 1 +
 (↑(D.len (D.cell d (Int.toNat (IntKind.wrap .i64 (j - 1))) 2)) : Int))))
 (.ret (.int .i64 3))
 (.leaf
 (Conf.mk
 (SFrm.mk 136 none none
 [Item.inLoop (cA 136 [1,0,1,0,0]),Item.inBlock 0,
 Item.code (cA 136 [1,1])]
 (mkJ 1
 [(0,.dat d),(1,SV.fn 137 [] [.ptr 0 0]),(9,.dat d),
 (10,.int .i64 (↑(D.len d) : Int)),
 (11,.int .i64 (IntKind.wrap .i64 (j + 1)))]
 0 53))
 [SFrm.mk 112 (some (oA 112 [1,1,1,0],[3])) (some 17)
 [Item.code (cA 112 [1,1,0,1,0,1])]
 (mkJ 0 [(0,.dat d),(5,.ptr 0 0),(15,.dat d),(16,SV.fn 137 [] [.ptr 0 0])] 0
 18)]
 [(0,OBlk.cells 23 [.dat im])])))
 (.leaf
 (Conf.mk
 (SFrm.mk 136 none none
 [Item.inLoop (cA 136 [1,0,1,0,0]),Item.inBlock 0,
 Item.code (cA 136 [1,1])]
 (mkJ 1
 [(0,.dat d),(1,SV.fn 137 [] [.ptr 0 0]),(9,.dat d),
 (10,.int .i64 (↑(D.len d) : Int)),
 (11,.int .i64 (IntKind.wrap .i64 (j + 1)))]
 0 53))
 [SFrm.mk 112 (some (oA 112 [1,1,1,0],[3])) (some 17)
 [Item.code (cA 112 [1,1,0,1,0,1])]
 (mkJ 0 [(0,.dat d),(5,.ptr 0 0),(15,.dat d),(16,SV.fn 137 [] [.ptr 0 0])] 0
 18)]
 [(0,OBlk.cells 23 [.dat im])])))))))))))
 (.ret (.int .i64 0)) := by kernel_rfl
theorem ixt_in : exec Try.prog [] 300 (entry Try.prog 140 [.dat d,.fn 135 [] []]) =
 Tree.leaf
 (Conf.mk
 (SFrm.mk 140 none none
 [Item.inLoop (cA 140 [1,0,1,0,0]),Item.inBlock 0,Item.code (cA 140 [1,1])]
 (mkJ 0
 [(0,.dat d),(1,SV.fn 135 [] []),(7,.int .i64 (↑(D.len d) : Int)),(8,.int .i64 0)] 0
 19))
 [] []) := by kernel_rfl
theorem ixt_go : exec Try.prog [] 300 (unroll (cpoL d j)) =
 Tree.br (decide (j < (↑(D.len d) : Int)))
 (.need (0 ≤ j ∧ j < (↑(D.len d) : Int) ∧ D.sz d = 1)
 (.need (D.HasCell d (Int.toNat j) 0 (FT.int .i64))
 (.br (decide (D.getInt d (Int.toNat j) 0 ≥ 0))
 (.br (!decide (D.getInt d (Int.toNat j) 0 ≤ 1073741824)) (.ret (.int .i64 j))
 (.leaf
 (Conf.mk
 (SFrm.mk 140 none none
 [Item.inLoop (cA 140 [1,0,1,0,0]),Item.inBlock 0,Item.code (cA 140 [1,1])]
 (mkJ 0
 [(0,.dat d),(1,SV.fn 135 [] []),(7,.int .i64 (↑(D.len d) : Int)),
 (8,.int .i64 (IntKind.wrap .i64 (j + 1)))]
 0 19))
 [] [])))
 (.ret (.int .i64 j)))))
 (.ret (.int .i64 (Int.neg 1))) := by kernel_rfl
theorem cpo2_in : exec Try.prog [(140,ctrOf ((rdD.two (rdFn 135)).sp spIxT))] 300 (entry Try.prog 111 [.dat d,.int .i64 n]) =
 Tree.br (decide ((↑(D.len d) : Int) ≥ n))
 (.br (!decide ((↑(D.len d) : Int) ≤ 8)) (.ret (.int .i64 6))
 (.need (D.Is Int d ∧ D.len d ≤ 1048576)
 (.br (decide (idxG (D.to Int d) badTime ≥ 0)) (.ret (.int .i64 2))
 (.ret (.int .i64 0)))))
 (.ret (.int .i64 6)) := by kernel_rfl
end
theorem ctCoOk : Ctrs.Ok Try.prog ctCo := by
 intro x hx
 rcases List.mem_cons.1 hx with rfl | hx
 ·exact ctrOf_ok lawNewI
 ·rw [List.mem_singleton.1 hx]; exact ctrOf_ok lawFitsI
theorem lawCo : Law Try.prog 112 ((rdD.two rdD).sp spCo) := by
 refine law_in _ (by kernel_rfl) fun H w ⟨d,s⟩ hok hp=>?_
 obtain ⟨hd,hdl,hdd,hs,hsl⟩ := hp _ (List.mem_singleton.2 rfl)
 simp only at hd hdl hdd hs hsl
 have dl := D.Is.length (α := Wt) d
 apply goS_sound ctCoOk _ _ 300
 rw [show (rdD.two rdD).canon (d,s) = [.dat d,.dat s] from rfl,coa_in]
 refine ⟨⟨hs,hsl⟩,fun hs0=>⟨fun hc=>ret_int ?_,fun hc=>?_⟩⟩
 ·show _ = coErr (d.to Wt) (s.to Int)
  unfold coErr; rw [if_pos (by simpa using hc)]
 have h0 : sizesErr (s.to Int) = 0 := by simpa using hc
 have him := img_ok h0 (hs0 0 0)
 have hit := D.like_to (hs0 0 0) (imgOf (s.to Int))
 generalize D.like (hs0 0 0) (imgOf (s.to Int)) = im at him hit
 have hco : coErr (d.to Wt) (s.to Int) = canonErr (s.to Int) none (d.to Wt) := by unfold coErr; rw [if_neg (by simp [h0])]
 show Runs Try.prog ⟨w,H⟩ (coA d im) (RetS w H (.int .i64 (coErr (d.to Wt) (s.to Int))))
 rw [hco]
 apply exec_sound ctCoOk 300
 rw [coa2_in]
 show Runs Try.prog ⟨w,H⟩ (coaL d im ((0 : Nat) : Int)) _
 refine runs_loop (fun j : Nat=>coaL d im (j : Int)) (fun j=>j ≤ (d.to Wt).length ∧ canonErr (s.to Int) none ((d.to Wt).take j) = 0) (fun j=>(d.to Wt).length - j) (fun _=>rfl) ?_ 0 ⟨Nat.zero_le _,rfl⟩
 rintro j ⟨hj,hpre⟩ ih
 apply exec_sound ctCoOk 300
 rw [coa_go]
 refine ⟨fun hc=>?_,fun hc=>?_⟩
 ·have hc : j < (d.to Wt).length := by have := of_decide_eq_true hc; omega
  obtain ⟨c1,c2,c3⟩ := wt_cell hd hc
  have c2 : (D.cell d (Int.toNat (j : Int)) 2).Is Sec := c2
  have hdj := hdd _ (List.getElem_mem hc)
  have e0 : (WtD.mk (D.getInt d (Int.toNat (j : Int)) 0) (D.getInt d (Int.toNat (j : Int)) 1) (D.cell d (Int.toNat (j : Int)) 2)).wt = (d.to Wt)[j] := c3.symm
  have hw2 : (D.cell d (Int.toNat (j : Int)) 2).len ≤ 1048576 := by
   rw [D.Is.length (α := Sec)]
   have := congrArg (fun w=>w.data.length) e0
   simp only [WtD.wt] at this
   rw [this]; exact hdj
  have ev : D.getInt d (Int.toNat (j : Int)) 0 = ((d.to Wt)[j]).vol := by rw [← e0]; rfl
  have es : D.getInt d (Int.toNat (j : Int)) 1 = ((d.to Wt)[j]).start := by rw [← e0]; rfl
  have sn : canonErr (s.to Int) none ((d.to Wt).take (j + 1)) = if fitsErr (s.to Int) (d.to Wt)[j] ≠ 0 then fitsErr (s.to Int) (d.to Wt)[j] else if cyBad (lastW none ((d.to Wt).take j)) (d.to Wt)[j] = true then 3 else 0 := by
   rw [List.take_succ_eq_append_getElem hc,canon_snoc,if_neg (by simp [hpre])]
  have hfi : fitsI (im.to Vol) (d.to Wt)[j] = fitsErr (s.to Int) (d.to Wt)[j] := by rw [hit,fitsI_img h0]
  have bad : canonErr (s.to Int) none ((d.to Wt).take (j + 1)) ≠ 0 → canonErr (s.to Int) none (d.to Wt) = canonErr (s.to Int) none ((d.to Wt).take (j + 1)) := canon_take
  have wj : IntKind.i64.wrap ((j : Int) + 1) = ((j + 1 : Nat) : Int) := wrap_succ hc (by omega)
  rw [e0,hfi,wj]
  have nxt : canonErr (s.to Int) none ((d.to Wt).take (j + 1)) = 0 → Runs Try.prog ⟨w,H⟩ (coaL d im ((j + 1 : Nat) : Int)) (RetS w H (.int .i64 (canonErr (s.to Int) none (d.to Wt)))) := fun h=>ih (j + 1) ⟨hc,h⟩ (by omega)
  refine ⟨⟨by omega,by omega,hd.size hc⟩,c1,⟨him,c2,hw2⟩,fun h1=>ret_int ?_,fun h1=>⟨fun hz=>?_,fun hz=>?_⟩⟩
  ·have h1 : fitsErr (s.to Int) (d.to Wt)[j] ≠ 0 := by simpa using h1
   rw [if_pos h1] at sn
   rw [bad (by rw [sn]; exact h1),sn]
  ·have h1 : fitsErr (s.to Int) (d.to Wt)[j] = 0 := by simpa using h1
   have hz := of_decide_eq_true hz
   have hj0 : j = 0 := by omega
   refine nxt ?_
   rw [sn,if_neg (by simp [h1])]
   subst hj0
   rfl
  ·have h1 : fitsErr (s.to Int) (d.to Wt)[j] = 0 := by simpa using h1
   rw [if_neg (by simp [h1])] at sn
   have hz := of_decide_eq_false hz
   obtain ⟨i,rfl⟩ : ∃ i,j = i + 1 := ⟨j - 1,by omega⟩
   have hci : i < (d.to Wt).length := by omega
   obtain ⟨b1,b2,b3⟩ := wt_cell hd hci
   have wi : IntKind.i64.wrap (((i + 1 : Nat) : Int) - 1) = (i : Int) := by rw [wrap64 (by omega) (by omega)]; omega
   have f0 : (WtD.mk (D.getInt d i 0) (D.getInt d i 1) (D.cell d i 2)).wt = (d.to Wt)[i] := b3.symm
   have fv : D.getInt d i 0 = ((d.to Wt)[i]).vol := by rw [← f0]; rfl
   have fs : D.getInt d i 1 = ((d.to Wt)[i]).start := by rw [← f0]; rfl
   have b2 : (D.cell d i 2).Is Sec := b2
   have fd : (D.cell d i 2).len = ((d.to Wt)[i]).data.length := by rw [D.Is.length (α := Sec),← f0]; rfl
   have hdi := hdd _ (List.getElem_mem hci)
   have hfit : fitsErr (s.to Int) (d.to Wt)[i] = 0 := by
    have := canon_snoc (s.to Int) ((d.to Wt).take i) none (d.to Wt)[i]
    rw [← List.take_succ_eq_append_getElem hci,hpre] at this
    apply Classical.byContradiction
    intro hne
    by_cases hq : canonErr (s.to Int) none ((d.to Wt).take i) ≠ 0
    ·rw [if_pos hq] at this; exact hq this.symm
    ·rw [if_neg hq,if_pos hne] at this; exact hne this.symm
   have hst : 0 ≤ ((d.to Wt)[i]).start ∧ ((d.to Wt)[i]).start ≤ 4096 := by
    have hmax := (sizesErr_ok h0).2.2
    unfold fitsErr at hfit
    split at hfit
    ·exact absurd hfit (by decide)
    ·rename_i q1
     split at hfit
     ·exact absurd hfit (by decide)
     ·split at hfit
      ·exact absurd hfit (by decide)
      ·rename_i q2 q3
       have hv : ((d.to Wt)[i]).vol.toNat < (s.to Int).length := by omega
       have hm := hmax _ (List.getElem_mem hv)
       have hg : (s.to Int).getD ((d.to Wt)[i]).vol.toNat 0 = (s.to Int)[((d.to Wt)[i]).vol.toNat] := by rw [List.getD_eq_getElem?_getD,List.getElem?_eq_getElem hv]; rfl
       rw [hg] at q3
       omega
   rw [lastW_take hci] at sn
   rw [wi,Int.toNat_natCast i,ev,es,fv,fs,fd]
   have wsum : IntKind.i64.wrap (((d.to Wt)[i]).start + (((d.to Wt)[i]).data.length : Int)) = ((d.to Wt)[i]).start + (((d.to Wt)[i]).data.length : Int) := wrap64 (by omega) (by omega)
   rw [wsum]
   refine ⟨⟨by omega,by omega,hd.size hci⟩,b1,fun k1=>ret_int ?_,fun k1=>⟨fun k2=>⟨fun k3=>ret_int ?_,fun k3=>?_⟩,fun k2=>?_⟩⟩
   ·rw [if_pos (by unfold cyBad; simp only; rw [k1]; rfl)] at sn
    rw [bad (by rw [sn]; decide),sn]
   ·rw [if_pos (by unfold cyBad; simp only; rw [k2,k3]; simp)] at sn
    rw [bad (by rw [sn]; decide),sn]
   ·rw [if_neg (by unfold cyBad; simp only; rw [k1,k2,k3]; simp)] at sn
    exact nxt sn
   ·rw [if_neg (by unfold cyBad; simp only; rw [k1,k2]; simp)] at sn
    exact nxt sn
 ·have : j = (d.to Wt).length := by have := of_decide_eq_false hc; omega
  subst this
  rw [List.take_length] at hpre
  exact ret_int hpre.symm
theorem ctCoROk : Ctrs.Ok Try.prog ctCoR := by
 intro x hx
 rcases List.mem_cons.1 hx with rfl | hx
 ·exact ctrOf_ok lawSizesR
 ·rw [List.mem_singleton.1 hx]; exact ctrOf_ok lawFitsR
theorem lawCoR : Law Try.prog 131 ((rdD.two rdD).sp spCo) := by
 refine law_in _ (by kernel_rfl) fun H w ⟨d,s⟩ hok hp=>?_
 obtain ⟨hd,hdl,hdd,hs,hsl⟩ := hp _ (List.mem_singleton.2 rfl)
 simp only at hd hdl hdd hs hsl
 have dl := D.Is.length (α := Wt) d
 apply exec_sound ctCoROk 300
 rw [show (rdD.two rdD).canon (d,s) = [.dat d,.dat s] from rfl,r22_in]
 refine ⟨⟨hs,hsl⟩,fun hc=>ret_int ?_,fun hc=>?_⟩
 ·show _ = coErr (d.to Wt) (s.to Int)
  unfold coErr; rw [if_pos (by simpa using hc)]
 have h0 : sizesErr (s.to Int) = 0 := by simpa using hc
 have hco : coErr (d.to Wt) (s.to Int) = canonErr (s.to Int) none (d.to Wt) := by unfold coErr; rw [if_neg (by simp [h0])]
 show Runs Try.prog ⟨w,H⟩ (r22L d s ((0 : Nat) : Int)) (RetS w H (.int .i64 (coErr (d.to Wt) (s.to Int))))
 rw [hco]
 refine runs_loop (fun j : Nat=>r22L d s (j : Int)) (fun j=>j ≤ (d.to Wt).length ∧ canonErr (s.to Int) none ((d.to Wt).take j) = 0) (fun j=>(d.to Wt).length - j) (fun _=>rfl) ?_ 0 ⟨Nat.zero_le _,rfl⟩
 rintro j ⟨hj,hpre⟩ ih
 apply exec_sound ctCoROk 300
 rw [r22_go]
 refine ⟨fun hc=>?_,fun hc=>?_⟩
 ·have hc : j < (d.to Wt).length := by have := of_decide_eq_true hc; omega
  obtain ⟨c1,c2,c3⟩ := wt_cell hd hc
  have c2 : (D.cell d (Int.toNat (j : Int)) 2).Is Sec := c2
  have hdj := hdd _ (List.getElem_mem hc)
  have e0 : (WtD.mk (D.getInt d (Int.toNat (j : Int)) 0) (D.getInt d (Int.toNat (j : Int)) 1) (D.cell d (Int.toNat (j : Int)) 2)).wt = (d.to Wt)[j] := c3.symm
  have hw2 : (D.cell d (Int.toNat (j : Int)) 2).len ≤ 1048576 := by
   rw [D.Is.length (α := Sec)]
   have := congrArg (fun w=>w.data.length) e0
   simp only [WtD.wt] at this
   rw [this]; exact hdj
  have ev : D.getInt d (Int.toNat (j : Int)) 0 = ((d.to Wt)[j]).vol := by rw [← e0]; rfl
  have es : D.getInt d (Int.toNat (j : Int)) 1 = ((d.to Wt)[j]).start := by rw [← e0]; rfl
  have sn : canonErr (s.to Int) none ((d.to Wt).take (j + 1)) = if fitsErr (s.to Int) (d.to Wt)[j] ≠ 0 then fitsErr (s.to Int) (d.to Wt)[j] else if cyBad (lastW none ((d.to Wt).take j)) (d.to Wt)[j] = true then 3 else 0 := by
   rw [List.take_succ_eq_append_getElem hc,canon_snoc,if_neg (by simp [hpre])]
  have bad : canonErr (s.to Int) none ((d.to Wt).take (j + 1)) ≠ 0 → canonErr (s.to Int) none (d.to Wt) = canonErr (s.to Int) none ((d.to Wt).take (j + 1)) := canon_take
  have wj : IntKind.i64.wrap ((j : Int) + 1) = ((j + 1 : Nat) : Int) := wrap_succ hc (by omega)
  rw [e0,wj]
  have nxt : canonErr (s.to Int) none ((d.to Wt).take (j + 1)) = 0 → Runs Try.prog ⟨w,H⟩ (r22L d s ((j + 1 : Nat) : Int)) (RetS w H (.int .i64 (canonErr (s.to Int) none (d.to Wt)))) := fun h=>ih (j + 1) ⟨hc,h⟩ (by omega)
  refine ⟨⟨by omega,by omega,hd.size hc⟩,c1,⟨hs,hsl,(sizesErr_ok h0).2.2,c2,hw2⟩,fun h1=>ret_int ?_,fun h1=>⟨fun hz=>?_,fun hz=>?_⟩⟩
  ·have h1 : fitsErr (s.to Int) (d.to Wt)[j] ≠ 0 := by simpa using h1
   rw [if_pos h1] at sn
   rw [bad (by rw [sn]; exact h1),sn]
  ·have h1 : fitsErr (s.to Int) (d.to Wt)[j] = 0 := by simpa using h1
   have hz := of_decide_eq_true hz
   have hj0 : j = 0 := by omega
   refine nxt ?_
   rw [sn,if_neg (by simp [h1])]
   subst hj0
   rfl
  ·have h1 : fitsErr (s.to Int) (d.to Wt)[j] = 0 := by simpa using h1
   rw [if_neg (by simp [h1])] at sn
   have hz := of_decide_eq_false hz
   obtain ⟨i,rfl⟩ : ∃ i,j = i + 1 := ⟨j - 1,by omega⟩
   have hci : i < (d.to Wt).length := by omega
   obtain ⟨b1,b2,b3⟩ := wt_cell hd hci
   have wi : IntKind.i64.wrap (((i + 1 : Nat) : Int) - 1) = (i : Int) := by rw [wrap64 (by omega) (by omega)]; omega
   have f0 : (WtD.mk (D.getInt d i 0) (D.getInt d i 1) (D.cell d i 2)).wt = (d.to Wt)[i] := b3.symm
   have fv : D.getInt d i 0 = ((d.to Wt)[i]).vol := by rw [← f0]; rfl
   have fs : D.getInt d i 1 = ((d.to Wt)[i]).start := by rw [← f0]; rfl
   have b2 : (D.cell d i 2).Is Sec := b2
   have fd : (D.cell d i 2).len = ((d.to Wt)[i]).data.length := by rw [D.Is.length (α := Sec),← f0]; rfl
   have hdi := hdd _ (List.getElem_mem hci)
   have hfit : fitsErr (s.to Int) (d.to Wt)[i] = 0 := by
    have := canon_snoc (s.to Int) ((d.to Wt).take i) none (d.to Wt)[i]
    rw [← List.take_succ_eq_append_getElem hci,hpre] at this
    apply Classical.byContradiction
    intro hne
    by_cases hq : canonErr (s.to Int) none ((d.to Wt).take i) ≠ 0
    ·rw [if_pos hq] at this; exact hq this.symm
    ·rw [if_neg hq,if_pos hne] at this; exact hne this.symm
   have hst : 0 ≤ ((d.to Wt)[i]).start ∧ ((d.to Wt)[i]).start ≤ 4096 := by
    have hmax := (sizesErr_ok h0).2.2
    unfold fitsErr at hfit
    split at hfit
    ·exact absurd hfit (by decide)
    ·rename_i q1
     split at hfit
     ·exact absurd hfit (by decide)
     ·split at hfit
      ·exact absurd hfit (by decide)
      ·rename_i q2 q3
       have hv : ((d.to Wt)[i]).vol.toNat < (s.to Int).length := by omega
       have hm := hmax _ (List.getElem_mem hv)
       have hg : (s.to Int).getD ((d.to Wt)[i]).vol.toNat 0 = (s.to Int)[((d.to Wt)[i]).vol.toNat] := by rw [List.getD_eq_getElem?_getD,List.getElem?_eq_getElem hv]; rfl
       rw [hg] at q3
       omega
   rw [lastW_take hci] at sn
   rw [wi,Int.toNat_natCast i,ev,es,fv,fs,fd]
   have wsum : IntKind.i64.wrap (((d.to Wt)[i]).start + (((d.to Wt)[i]).data.length : Int)) = ((d.to Wt)[i]).start + (((d.to Wt)[i]).data.length : Int) := wrap64 (by omega) (by omega)
   rw [wsum]
   have wsum2 : IntKind.i64.wrap (((d.to Wt)[i]).start + (((d.to Wt)[i]).data.length : Int) + 1) = ((d.to Wt)[i]).start + (((d.to Wt)[i]).data.length : Int) + 1 := wrap64 (by omega) (by omega)
   rw [wsum2]
   have row : 0 ≤ ((i + 1 : Nat) : Int) ∧ ((i + 1 : Nat) : Int) < (d.len : Int) ∧ d.sz = 3 := ⟨by omega,by omega,hd.size hc⟩
   have hc0 : d.HasCell (Int.toNat ((i + 1 : Nat) : Int)) 0 (.int .i64) := c1.1
   have hc1 : d.HasCell (Int.toNat ((i + 1 : Nat) : Int)) 1 (.int .i64) := c1.2.1
   refine ⟨⟨by omega,by omega,hd.size hci⟩,b1,fun hs9=>⟨fun k1=>?_,fun k1=>⟨fun k2=>?_,fun k2=>?_⟩⟩⟩
   ·repeat' first
     | refine holds_need.2 ⟨row,?_⟩
     | refine holds_need.2 ⟨hc0,?_⟩
     | refine holds_need.2 ⟨k1,?_⟩
    refine ret_int ?_
    rw [if_pos (by unfold cyBad; simp only; rw [k1]; rfl)] at sn
    rw [bad (by rw [sn]; decide),sn]
   ·repeat' first
     | refine holds_need.2 ⟨row,?_⟩
     | refine holds_need.2 ⟨hc0,?_⟩
     | refine holds_need.2 ⟨hc1,?_⟩
     | refine holds_need.2 ⟨k1,?_⟩
     | refine holds_need.2 ⟨k2,?_⟩
    refine ⟨fun k3=>ret_int ?_,fun k3=>?_⟩
    ·have k3 := of_decide_eq_true k3
     rw [if_pos (by unfold cyBad; simp only; rw [k2,decide_eq_true (show ((d.to Wt)[i + 1]).start ≤ ((d.to Wt)[i]).start + (((d.to Wt)[i]).data.length : Int) by omega)]; simp)] at sn
     rw [bad (by rw [sn]; decide),sn]
    ·have k3 := of_decide_eq_false k3
     rw [if_neg (by unfold cyBad; simp only; rw [k1,k2,decide_eq_false (show ¬((d.to Wt)[i + 1]).start ≤ ((d.to Wt)[i]).start + (((d.to Wt)[i]).data.length : Int) by omega)]; simp)] at sn
     exact nxt sn
   ·repeat' first
     | refine holds_need.2 ⟨row,?_⟩
     | refine holds_need.2 ⟨hc0,?_⟩
     | refine holds_need.2 ⟨k1,?_⟩
     | refine holds_need.2 ⟨k2,?_⟩
    rw [if_neg (by unfold cyBad; simp only; rw [k1,k2]; simp)] at sn
    exact nxt sn
 ·have : j = (d.to Wt).length := by have := of_decide_eq_false hc; omega
  subst this
  rw [List.take_length] at hpre
  exact ret_int hpre.symm
theorem lawIxT : Law Try.prog 140 ((rdD.two (rdFn 135)).sp spIxT) := by
 refine law_in _ (by kernel_rfl) fun H w ⟨d,u⟩ hok hp=>?_
 obtain ⟨hd,hlen⟩ := hp _ (List.mem_singleton.2 rfl)
 simp only at hd hlen
 have hl := D.Is.length (α := Int) d
 apply exec_sound (noCtr _) 300
 rw [show (rdD.two (rdFn 135)).canon (d,u) = [.dat d,.fn 135 [] []] from rfl,ixt_in]
 refine runs_loop (fun j : Nat=>cpoL d j) (fun j=>j ≤ (d.to Int).length ∧ ((d.to Int).take j).findIdx? badTime = none) (fun j=>(d.to Int).length - j) (fun _=>rfl) ?_ 0 ⟨Nat.zero_le _,by simp⟩
 intro j ⟨hj,hpre⟩ ih
 apply exec_sound (noCtr _) 300
 rw [ixt_go]
 refine ⟨fun hc=>?_,fun hc=>ret_int ?_⟩
 ·have hc : j < (d.to Int).length := by have := of_decide_eq_true hc; omega
  obtain ⟨c1,c2,c3⟩ := int_at hd hc
  rw [c3]
  refine ⟨c1,c2,fun h1=>⟨fun h2=>ret_int ?_,fun h2=>?_⟩,fun h1=>ret_int ?_⟩
  ·have h2 : ¬(d.to Int)[j] ≤ 1073741824 := by simpa using h2
   exact (idxG_hit hc hpre (by unfold badTime; rw [decide_eq_true (show (d.to Int)[j] > 1073741824 by omega)]; simp)).symm
  ·have h1 := of_decide_eq_true h1
   have h2 : (d.to Int)[j] ≤ 1073741824 := by simpa using h2
   have := ih (j + 1) ⟨hc,idxG_miss hc hpre (by unfold badTime; rw [decide_eq_false (show ¬(d.to Int)[j] < 0 by omega),decide_eq_false (show ¬(d.to Int)[j] > 1073741824 by omega)]; rfl)⟩ (by omega)
   rw [← wrap_succ hc (by omega)] at this
   exact this
  ·have h1 := of_decide_eq_false h1
   exact (idxG_hit hc hpre (by unfold badTime; rw [decide_eq_true (show (d.to Int)[j] < 0 by omega)]; rfl)).symm
 ·have : j = (d.to Int).length := by have := of_decide_eq_false hc; omega
  subst this
  exact (idxG_none hpre).symm
theorem lawPosL : Law Try.prog 111 ((rdD.two rdInt).sp spPosL) := by
 refine law_in _ (by kernel_rfl) fun H w ⟨d,n⟩ hok hp=>?_
 obtain ⟨hd,hlen⟩ := hp _ (List.mem_singleton.2 rfl)
 simp only at hd hlen
 have hl := D.Is.length (α := Int) d
 apply exec_sound (cs := [(140,ctrOf ((rdD.two (rdFn 135)).sp spIxT))]) (by intro x hx; rw [List.mem_singleton.1 hx]; exact ctrOf_ok lawIxT) 300
 rw [show (rdD.two rdInt).canon (d,n) = [.dat d,.int .i64 n] from rfl,cpo2_in]
 rw [idxG_any]
 refine ⟨fun h1=>⟨fun h2=>ret_int ?_,fun h2=>⟨⟨hd,hlen⟩,fun h3=>ret_int ?_,fun h3=>ret_int ?_⟩⟩,fun h1=>ret_int ?_⟩
 ·have h2 : ¬(d.len : Int) ≤ 8 := by simpa using h2
  show _ = posL (d.to Int) n
  unfold posL; rw [if_pos (by omega)]
 ·have h1 := of_decide_eq_true h1
  have h2 : (d.len : Int) ≤ 8 := by simpa using h2
  show _ = posL (d.to Int) n
  unfold posL; rw [if_neg (by omega),if_pos h3]
 ·have h1 := of_decide_eq_true h1
  have h2 : (d.len : Int) ≤ 8 := by simpa using h2
  show _ = posL (d.to Int) n
  unfold posL; rw [if_neg (by omega),if_neg (by simp [h3])]
 ·have h1 := of_decide_eq_false h1
  show _ = posL (d.to Int) n
  unfold posL; rw [if_pos (by omega)]
theorem ctCyOk : Ctrs.Ok Try.prog ctCy := by
 intro x hx
 rcases List.mem_cons.1 hx with rfl | hx
 ·exact ctrOf_ok lawNewI
 rcases List.mem_cons.1 hx with rfl | hx
 ·exact ctrOf_ok lawPosL
 ·rw [List.mem_singleton.1 hx]; exact ctrOf_ok lawCo
theorem ctCyROk : Ctrs.Ok Try.prog ctCyR := by
 intro x hx
 rcases List.mem_cons.1 hx with rfl | hx
 ·exact ctrOf_ok lawSizesR
 rcases List.mem_cons.1 hx with rfl | hx
 ·exact ctrOf_ok lawPosR
 ·rw [List.mem_singleton.1 hx]; exact ctrOf_ok lawCoR
theorem posL_zero (l : List Int) : posL l 0 = posErr l := by
 unfold posL posErr
 by_cases h : l.length > 8
 ·rw [if_pos (.inr h),if_pos h]
 ·rw [if_neg (by omega),if_neg h]
theorem lawCyCk : Law Try.prog 73 ((rdCy.two rdD).sp spCyCk) := by
 refine law_in _ (by kernel_rfl) fun H w ⟨⟨b,n,t,p,q⟩,s⟩ hok hp=>?_
 obtain ⟨⟨hpI,hqI,hpl,hql,hqd⟩,hs,hsl⟩ := hp _ (List.mem_singleton.2 rfl)
 simp only at hpI hqI hpl hql hqd hs hsl
 apply exec_sound ctCyOk 300
 rw [show (rdCy.two rdD).canon (⟨b,n,t,p,q⟩,s) = [.agg [.int .i64 b,.int .i64 n,.int .i64 t,.dat p,.dat q],.dat s] from rfl,cyc_in]
 have e0 : ∀ r : Int,cyErr (CyD.mk b n t p q).cy (s.to Int) = r → cyErr (CyD.mk b n t p q).cy (s.to Int) = r := fun _ h=>h
 rw [posL_zero]
 refine ⟨⟨hs,hsl⟩,fun hs0=>⟨fun c1=>ret_int ?_,fun c1=>⟨fun c2=>ret_int ?_,fun c2=>⟨fun c3=>ret_int ?_,fun c3=>⟨fun c4=>ret_int ?_,fun c4=>⟨fun c5=>⟨fun c6=>ret_int ?_,fun c6=>⟨⟨hpI,hpl⟩,fun c7=>ret_int ?_,fun c7=>⟨⟨hqI,hql,hqd,hs,hsl⟩,ret_int ?_⟩⟩⟩,fun c5=>ret_int ?_⟩⟩⟩⟩⟩⟩
 all_goals show _ = cyErr ⟨b,n,t,p.to Int,q.to Wt⟩ (s.to Int)
 all_goals unfold cyErr
 ·rw [if_pos (by simpa using c1)]
 ·have c2 := of_decide_eq_true c2
  rw [if_neg (by simpa using c1),if_pos (by simp only; omega)]
 ·have c3 := of_decide_eq_true c3
  rw [if_neg (by simpa using c1),if_pos (by simp only; omega)]
 ·have c4 := of_decide_eq_true c4
  rw [if_neg (by simpa using c1),if_pos (by simp only; omega)]
 all_goals
  have c2 := of_decide_eq_false c2
  have c3 := of_decide_eq_false c3
  have c4 := of_decide_eq_false c4
  rw [if_neg (by simpa using c1),if_neg (by simp only; omega)]
 ·have c6 : ¬t ≤ 1073741824 := by simpa using c6
  rw [if_pos (by unfold badTime; rw [decide_eq_true (show t > 1073741824 by omega)]; simp)]
 ·have c5 := of_decide_eq_true c5
  have c6 : t ≤ 1073741824 := by simpa using c6
  rw [if_neg (by unfold badTime; rw [decide_eq_false (show ¬t < 0 by omega),decide_eq_false (show ¬t > 1073741824 by omega)]; decide),if_pos (by simpa using c7)]
 ·have c5 := of_decide_eq_true c5
  have c6 : t ≤ 1073741824 := by simpa using c6
  rw [if_neg (by unfold badTime; rw [decide_eq_false (show ¬t < 0 by omega),decide_eq_false (show ¬t > 1073741824 by omega)]; decide),if_neg (by simpa using c7)]
 ·have c5 := of_decide_eq_false c5
  rw [if_pos (by unfold badTime; rw [decide_eq_true (show t < 0 by omega)]; rfl)]
theorem lawCyCkR : Law Try.prog 102 ((rdCy.two rdD).sp spCyCk) := by
 refine law_in _ (by kernel_rfl) fun H w ⟨⟨b,n,t,p,q⟩,s⟩ hok hp=>?_
 obtain ⟨⟨hpI,hqI,hpl,hql,hqd⟩,hs,hsl⟩ := hp _ (List.mem_singleton.2 rfl)
 simp only at hpI hqI hpl hql hqd hs hsl
 have pl := D.Is.length (α := Int) p
 apply exec_sound ctCyROk 300
 rw [show (rdCy.two rdD).canon (⟨b,n,t,p,q⟩,s) = [.agg [.int .i64 b,.int .i64 n,.int .i64 t,.dat p,.dat q],.dat s] from rfl,rcy_in]
 refine ⟨⟨hs,hsl⟩,fun c1=>ret_int ?_,fun c1=>⟨fun c2=>ret_int ?_,fun c2=>⟨fun c3=>ret_int ?_,fun c3=>⟨fun c4=>ret_int ?_,fun c4=>⟨fun c5=>ret_int ?_,fun c5=>⟨fun c6=>ret_int ?_,fun c6=>⟨fun c8=>ret_int ?_,fun c8=>⟨⟨hpI,hpl⟩,fun c7=>ret_int ?_,fun c7=>⟨⟨hqI,hql,hqd,hs,hsl⟩,ret_int ?_⟩⟩⟩⟩⟩⟩⟩⟩⟩
 all_goals show _ = cyErr ⟨b,n,t,p.to Int,q.to Wt⟩ (s.to Int)
 all_goals unfold cyErr
 ·rw [if_pos (by simpa using c1)]
 ·have c2 := of_decide_eq_true c2
  rw [if_neg (by simpa using c1),if_pos (by simp only; omega)]
 ·have c3 := of_decide_eq_true c3
  rw [if_neg (by simpa using c1),if_pos (by simp only; omega)]
 ·have c4 := of_decide_eq_true c4
  rw [if_neg (by simpa using c1),if_pos (by simp only; omega)]
 all_goals
  have c2 := of_decide_eq_false c2
  have c3 := of_decide_eq_false c3
  have c4 := of_decide_eq_false c4
  rw [if_neg (by simpa using c1),if_neg (by simp only; omega)]
 ·rw [if_pos (by unfold badTime; rw [c5]; rfl)]
 ·rw [if_pos (by unfold badTime; rw [c6]; simp)]
 all_goals rw [if_neg (by unfold badTime; rw [c5,c6]; decide)]
 ·have c8 := of_decide_eq_true c8
  have e : posErr (p.to Int) = 6 := by unfold posErr; rw [if_pos (by omega)]
  rw [if_pos (by simp only; rw [e]; decide)]
  simp only [e]
 ·have c8 := of_decide_eq_false c8
  have e : posErr (p.to Int) = posT (p.to Int) := by unfold posErr posT; rw [if_neg (by omega)]
  rw [if_pos (by simp only; rw [e]; simpa using c7)]
  simp only [e]
 ·have c8 := of_decide_eq_false c8
  have e : posErr (p.to Int) = posT (p.to Int) := by unfold posErr posT; rw [if_neg (by omega)]
  rw [if_neg (by simp only; rw [e]; simpa using c7)]
def ctK : Ctrs := [(104,oCtr (spClone Int 3)),(125,oCtr (spClone Sec 141))]
section
variable (d p q : D) (b n t : Int)
theorem cl1_in : execT Try.prog [] (fun _=>false) 19 (entry Try.prog 104 [.dat d]) =
 Tree.br
 (nilOf
 (evS
 (putS [.dat d,SV.undef,.nils,SV.undef,SV.undef,SV.undef,SV.undef,SV.undef] (some 3)
 (evS [.dat d,SV.undef,.nils,SV.undef,SV.undef,SV.undef,SV.undef,SV.undef] (Operand.tmp 0)))
 (Operand.tmp 3))
 d)
 (.ret .nils)
 (.all fun hs =>
 .need
 (D.sz (D.slc (D.hd (hs 0 0)) 1 []) = 1 ∧
 D.Fits d 1 ∧
 (D.len (D.slc (D.hd (hs 0 0)) 1 []) + D.len d) * 8 ≤ 140737488355328 ∧
 D.len (D.slc (D.hd (hs 0 0)) 1 []) + D.len d ≤ 9223372036854775807)
 (.all fun hs_1 =>
 .leaf
 (Conf.mk
 (SFrm.mk 104 none none [Item.code (cA 104 [1,0,1,0,1])]
 (mkU
 [(0,.dat d),(2,.vec 1007),(3,.dat d),
 (4,
 .bool
 (nilOf
 (evS
 (putS [.dat d,SV.undef,.nils,SV.undef,SV.undef,SV.undef,SV.undef,SV.undef] (some 3)
 (evS [.dat d,SV.undef,.nils,SV.undef,SV.undef,SV.undef,SV.undef,SV.undef]
 (Operand.tmp 0)))
 (Operand.tmp 3))
 d)),
 (5,.vec 1005),(6,.dat d),(7,.vec 1007)]
 0 8))
 []
 [(1007,
 OBlk.arr 3
 (D.slc (D.hd (hs_1 0 0)) 1 (List.append (D.rows (D.slc (D.hd (hs 0 0)) 1 [])) (D.rows d))))]))) := by kernel_rfl
theorem cl2_in : execT Try.prog [] (fun _=>false) 19 (entry Try.prog 125 [.dat d]) =
 Tree.br
 (nilOf
 (evS
 (putS [.dat d,SV.undef,.nils,SV.undef,SV.undef,SV.undef,SV.undef,SV.undef] (some 3)
 (evS [.dat d,SV.undef,.nils,SV.undef,SV.undef,SV.undef,SV.undef,SV.undef] (Operand.tmp 0)))
 (Operand.tmp 3))
 d)
 (.ret .nils)
 (.all fun hs =>
 .need
 (D.sz (D.slc (D.hd (hs 0 0)) 8 []) = 8 ∧
 D.Fits d 8 ∧
 (D.len (D.slc (D.hd (hs 0 0)) 8 []) + D.len d) * 8 ≤ 140737488355328 ∧
 D.len (D.slc (D.hd (hs 0 0)) 8 []) + D.len d ≤ 9223372036854775807)
 (.all fun hs_1 =>
 .leaf
 (Conf.mk
 (SFrm.mk 125 none none [Item.code (cA 125 [1,0,1,0,1])]
 (mkU
 [(0,.dat d),(2,.vec 1007),(3,.dat d),
 (4,
 .bool
 (nilOf
 (evS
 (putS [.dat d,SV.undef,.nils,SV.undef,SV.undef,SV.undef,SV.undef,SV.undef] (some 3)
 (evS [.dat d,SV.undef,.nils,SV.undef,SV.undef,SV.undef,SV.undef,SV.undef]
 (Operand.tmp 0)))
 (Operand.tmp 3))
 d)),
 (5,.vec 1005),(6,.dat d),(7,.vec 1007)]
 0 8))
 []
 [(1007,
 OBlk.arr 141
 (D.slc (D.hd (hs_1 0 0)) 8 (List.append (D.rows (D.slc (D.hd (hs 0 0)) 8 [])) (D.rows d))))]))) := by kernel_rfl
theorem ccp_in : exec Try.prog ctK 400 (entry Try.prog 90 [.agg [.int .i64 b,.int .i64 n,.int .i64 t,.dat p,.dat q]]) =
 Tree.need (D.Is Int p ∧ D.len p ≤ 1048576)
 (.all fun hs =>
 .leaf
 (Conf.mk
 (SFrm.mk 90 none none
 [Item.inLoop (cA 90 [1,1,1,0,1,0,0]),Item.inBlock 0,
 Item.code (cA 90 [1,1,1,1])]
 (mkJ 0
 [(1,.ptr 0 0),(2,.ptr 1 0),(3,.nils),(11,.dat q),
 (12,.int .i64 (↑(D.len q) : Int)),(13,.int .i64 0)]
 0 29))
 []
 [(0,OBlk.cells 65 [.int .i64 b,.int .i64 n,.int .i64 t,.vec 2,.dat q]),
 (1,OBlk.cells 65 [.int .i64 0,.int .i64 0,.int .i64 0,.nils,.nils]),
 (2,OBlk.arr 3 (D.slc (D.hd (hs 0 0)) 1 (D.rows p)))])) := by kernel_rfl
end
def ccpL (q p r : D) (b n t j : Int) : Conf := Conf.mk (SFrm.mk 90 none none [Item.inLoop (cA 90 [1,1,1,0,1,0,0]),Item.inBlock 0,Item.code (cA 90 [1,1,1,1])]
 (mkJ 0 [(1,.ptr 0 0),(2,.ptr 1 0),(3,.vec 2),(11,.dat q),(12,.int .i64 (q.len : Int)),(13,.int .i64 j)] 0 29)) [] [(0,.cells 65 [.int .i64 b,.int .i64 n,.int .i64 t,.vec 3,.dat q]),(1,.cells 65 [.int .i64 0,.int .i64 0,.int .i64 0,.nils,.nils]),(2,.arr 148 r),(3,.arr 3 p)]
section
variable (d p q r : D) (b n t j : Int)
theorem ccpL_go : exec Try.prog ctK 400 (unroll (ccpL q p r b n t j)) =
 Tree.br (decide (j < (↑(D.len q) : Int)))
 (.need (0 ≤ j ∧ j < (↑(D.len q) : Int) ∧ D.sz q = 3)
 (.need (D.HasCells q (Int.toNat j) 0 [FT.int .i64,FT.int .i64,FT.slc])
 (.need (D.Is Sec (D.cell q (Int.toNat j) 2) ∧ D.len (D.cell q (Int.toNat j) 2) ≤ 1048576)
 (.all fun hs =>
 .all fun hs_1 =>
 .need
 (D.sz r = 3 ∧
 D.Fits
 (D.slc (D.hd (hs_1 0 0)) 3
 [[D.int .i64 (D.getInt q (Int.toNat j) 0),D.int .i64 (D.getInt q (Int.toNat j) 1),
 D.slc (D.hd (hs 0 0)) 8 (D.rows (D.cell q (Int.toNat j) 2))]])
 3 ∧
 (D.len r +
 D.len
 (D.slc (D.hd (hs_1 0 0)) 3
 [[D.int .i64 (D.getInt q (Int.toNat j) 0),
 D.int .i64 (D.getInt q (Int.toNat j) 1),
 D.slc (D.hd (hs 0 0)) 8 (D.rows (D.cell q (Int.toNat j) 2))]])) *
 40 ≤
 140737488355328 ∧
 D.len r +
 D.len
 (D.slc (D.hd (hs_1 0 0)) 3
 [[D.int .i64 (D.getInt q (Int.toNat j) 0),
 D.int .i64 (D.getInt q (Int.toNat j) 1),
 D.slc (D.hd (hs 0 0)) 8 (D.rows (D.cell q (Int.toNat j) 2))]]) ≤
 9223372036854775807)
 (.all fun hs_2 =>
 .leaf
 (Conf.mk
 (SFrm.mk 90 none none
 [Item.inLoop (cA 90 [1,1,1,0,1,0,0]),Item.inBlock 0,
 Item.code (cA 90 [1,1,1,1])]
 (mkJ 0
 [(1,.ptr 0 0),(2,.ptr 1 0),(3,.vec 2),(11,.dat q),
 (12,.int .i64 (↑(D.len q) : Int)),
 (13,.int .i64 (IntKind.wrap .i64 (j + 1)))]
 0 29))
 []
 [(0,
 OBlk.cells 65
 [.int .i64 b,.int .i64 n,.int .i64 t,.vec 3,.dat q]),
 (1,
 OBlk.cells 65
 [.int .i64 0,.int .i64 0,.int .i64 0,.nils,.nils]),
 (2,
 OBlk.arr 148
 (D.slc (D.hd (hs_2 0 0)) 3
 (List.append (D.rows r)
 (D.rows
 (D.slc (D.hd (hs_1 0 0)) 3
 [[D.int .i64 (D.getInt q (Int.toNat j) 0),
 D.int .i64 (D.getInt q (Int.toNat j) 1),
 D.slc (D.hd (hs 0 0)) 8 (D.rows (D.cell q (Int.toNat j) 2))]]))))),
 (3,OBlk.arr 3 p)]))))))
 (.ret (.agg [.int .i64 b,.int .i64 n,.int .i64 t,.dat p,.dat r])) := by kernel_rfl
end
theorem lawCl1 : OLaw Try.prog 104 (spClone Int 3) := by
 refine olaw_clone (by kernel_rfl) fun H w d hok hd hlen=>?_
 apply execT_sound (noCtr _) (fun _=>false) 19
 rw [cl1_in]
 refine ⟨fun hc=>?_,fun hc hs=>⟨⟨rfl,hd.fits,by simp only [len_slc,List.length_nil]; omega,by simp only [len_slc,List.length_nil]; omega⟩,fun hs1=>?_⟩⟩
 ·have hc : d.isNil = true := hc
  have := nil_rows hok hc
  exact own_nil (h := .slc none 1 []) (by rw [this]; rfl)
 ·exact own_ret (f := Try.f104) (j := 1007) (h := hs1 0 0) (by kernel_rfl) (by kernel_rfl) rfl rfl
theorem lawCl2 : OLaw Try.prog 125 (spClone Sec 141) := by
 refine olaw_clone (by kernel_rfl) fun H w d hok hd hlen=>?_
 apply execT_sound (noCtr _) (fun _=>false) 19
 rw [cl2_in]
 refine ⟨fun hc=>?_,fun hc hs=>⟨⟨rfl,hd.fits,by simp only [len_slc,List.length_nil]; omega,by simp only [len_slc,List.length_nil]; omega⟩,fun hs1=>?_⟩⟩
 ·have hc : d.isNil = true := hc
  have := nil_rows hok hc
  exact own_nil (h := .slc none 8 []) (by rw [this]; rfl)
 ·exact own_ret (f := Try.f125) (j := 1007) (h := hs1 0 0) (by kernel_rfl) (by kernel_rfl) rfl rfl
theorem ctKOk : Ctrs.Ok Try.prog ctK := by
 intro x hx
 simp only [ctK,List.mem_cons,List.not_mem_nil,or_false] at hx
 rcases hx with rfl | rfl
 ·exact oCtr_ok lawCl1
 ·exact oCtr_ok lawCl2
theorem lawCpC : Law Try.prog 90 (rdCy.one.sp spCpC) := by
 refine law_in _ (by kernel_rfl) fun H w ⟨b,n,t,p,hb⟩ hok hp=>?_
 obtain ⟨ra,rb,la,lb,rd⟩ := hp _ (List.mem_singleton.2 rfl)
 simp only at ra rb la lb rd
 have bl := D.Is.length (α := Wt) hb
 apply exec_sound ctKOk 400
 rw [show rdCy.one.canon ⟨b,n,t,p,hb⟩ = [.agg [.int .i64 b,.int .i64 n,.int .i64 t,.dat p,.dat hb]] from rfl,ccp_in]
 refine ⟨⟨ra,la⟩,fun hs=>?_⟩
 obtain ⟨p1,p2⟩ := slc_same ra (D.hd (hs 0 0)) (s := 1) rfl
 refine vecIn_to 9 148 3 none 3 (ccpL hb (D.slc (D.hd (hs 0 0)) 1 (D.rows p)) (.slc none 3 []) b n t 0) (by kernel_rfl) ?_
 generalize D.slc (D.hd (hs 0 0)) 1 (D.rows p) = p' at p1 p2
 refine runs_loop (fun q : D × Nat=>ccpL hb p' q.1 b n t q.2) (fun q=>q.2 ≤ (hb.to Wt).length ∧ q.1.Is Wt ∧ q.1.sz = 3 ∧ q.1.to Wt = (hb.to Wt).take q.2) (fun q=>(hb.to Wt).length - q.2) (fun _=>rfl) ?_ (.slc none 3 [],0) ⟨Nat.zero_le _,is_nil _ _,rfl,rfl⟩
 intro ⟨q,j⟩ ⟨hj,hq,hz,hto⟩ ih
 simp only at hj hq hz hto
 have ql := D.Is.length (α := Wt) q
 rw [hto,List.length_take] at ql
 show Runs Try.prog ⟨w,H⟩ (unroll (ccpL hb p' q b n t j)) _
 apply exec_sound ctKOk 400
 rw [ccpL_go]
 refine ⟨fun hcj=>?_,fun hcj=>?_⟩
 ·have hcj : j < (hb.to Wt).length := by have := of_decide_eq_true hcj; omega
  obtain ⟨c1,c2,c3⟩ := wt_cell rb hcj
  have hwd := rd _ (List.getElem_mem hcj)
  rw [c3] at hwd
  refine ⟨⟨by omega,by omega,rb.size hcj⟩,c1,⟨c2,by rw [D.Is.length (α := Sec)]; exact hwd⟩,fun hs1 hs2=>⟨⟨hz,.inr rfl,by simp only [len_slc,List.length_cons,List.length_nil]; omega,by simp only [len_slc,List.length_cons,List.length_nil]; omega⟩,fun hs3=>?_⟩⟩
  obtain ⟨x1,x2⟩ := slc_same c2 (D.hd (hs1 0 0)) (s := 8) rfl
  have hr := rows_app (rows_of hq) (wt_one (hb.getInt j 0) (hb.getInt j 1) x1)
  obtain ⟨i1,i2⟩ := is_of (h := D.hd (hs3 0 0)) (s := 3) rfl hr
  have := ih (_,j + 1) ⟨hcj,i1,rfl,i2.trans (by rw [hto,List.take_succ_eq_append_getElem hcj,c3,x2])⟩ (by simp only; omega)
  simp only at this
  rw [← wrap_succ hcj (by omega)] at this
  exact this
 ·have : j = (hb.to Wt).length := by have := of_decide_eq_false hcj; omega
  subst this
  rw [List.take_length] at hto
  exact ret_cy (stands_dat p1 p2) (stands_dat hq hto) rfl
section
variable (a b p q p' q' : D) (j x n t x' n' t' e s ap st : Int)
theorem nt1_in : exec Try.prog [] 300 (entry Try.prog 48 [.int .i64 e,.int .i64 s,.int .i64 ap]) =
 Tree.br (decide (e ≥ 0))
 (.br (decide (e ≤ 1073741824))
 (.br (decide (s ≥ 0))
 (.br (decide (s < 4))
 (.br (decide (ap ≥ 0))
 (.br (!decide (ap ≤ 1073741824))
 (.ret
 (SV.tup
 [.agg [.int .i64 0,.int .i64 0,.int .i64 0,.int .i64 0],
 .int .i64 2]))
 (.ret
 (SV.tup
 [.agg [.int .i64 e,.int .i64 s,.int .i64 ap,.int .i64 ap],
 .int .i64 0])))
 (.ret
 (SV.tup
 [.agg [.int .i64 0,.int .i64 0,.int .i64 0,.int .i64 0],
 .int .i64 2])))
 (.ret
 (SV.tup
 [.agg [.int .i64 0,.int .i64 0,.int .i64 0,.int .i64 0],
 .int .i64 2])))
 (.ret
 (SV.tup
 [.agg [.int .i64 0,.int .i64 0,.int .i64 0,.int .i64 0],
 .int .i64 2])))
 (.ret
 (SV.tup
 [.agg [.int .i64 0,.int .i64 0,.int .i64 0,.int .i64 0],
 .int .i64 2])))
 (.ret
 (SV.tup
 [.agg [.int .i64 0,.int .i64 0,.int .i64 0,.int .i64 0],
 .int .i64 2])) := by kernel_rfl
theorem nt2_in : exec Try.prog [] 300 (entry Try.prog 50 [.int .i64 e,.int .i64 s,.int .i64 ap]) =
 Tree.br (decide (e ≥ 0))
 (.br (!decide (e ≤ 1073741824))
 (.ret
 (SV.tup
 [.agg [.int .i64 0,.int .i64 0,.int .i64 0,.int .i64 0],
 .int .i64 2]))
 (.br (decide (s ≥ 0))
 (.br (!decide (s < 4))
 (.ret
 (SV.tup
 [.agg [.int .i64 0,.int .i64 0,.int .i64 0,.int .i64 0],
 .int .i64 2]))
 (.br (decide (ap ≥ 0))
 (.br (!decide (ap ≤ 1073741824))
 (.ret
 (SV.tup
 [.agg [.int .i64 0,.int .i64 0,.int .i64 0,.int .i64 0],
 .int .i64 2]))
 (.ret
 (SV.tup
 [.agg [.int .i64 e,.int .i64 s,.int .i64 ap,.int .i64 ap],
 .int .i64 0])))
 (.ret
 (SV.tup
 [.agg [.int .i64 0,.int .i64 0,.int .i64 0,.int .i64 0],
 .int .i64 2]))))
 (.ret
 (SV.tup
 [.agg [.int .i64 0,.int .i64 0,.int .i64 0,.int .i64 0],
 .int .i64 2]))))
 (.ret
 (SV.tup
 [.agg [.int .i64 0,.int .i64 0,.int .i64 0,.int .i64 0],
 .int .i64 2])) := by kernel_rfl
theorem ns1_in : exec Try.prog [] 300 (entry Try.prog 49 [.int .i64 e,.int .i64 s,.int .i64 ap]) =
 Tree.br (decide (e ≥ 0))
 (.br (decide (e ≤ 1073741824))
 (.br (decide (s ≥ 0))
 (.br (decide (s < 4))
 (.br (decide (ap ≥ 0))
 (.br (!decide (ap ≤ 1073741824))
 (.ret
 (SV.tup
 [.agg
 [.int .i64 0,.int .i64 0,.nils,.int .i64 0,.int .i64 0],
 .int .i64 2]))
 (.ret
 (SV.tup
 [.agg
 [.int .i64 e,.int .i64 s,.nils,.int .i64 ap,.int .i64 ap],
 .int .i64 0])))
 (.ret
 (SV.tup
 [.agg [.int .i64 0,.int .i64 0,.nils,.int .i64 0,.int .i64 0],
 .int .i64 2])))
 (.ret
 (SV.tup
 [.agg [.int .i64 0,.int .i64 0,.nils,.int .i64 0,.int .i64 0],
 .int .i64 2])))
 (.ret
 (SV.tup
 [.agg [.int .i64 0,.int .i64 0,.nils,.int .i64 0,.int .i64 0],
 .int .i64 2])))
 (.ret
 (SV.tup
 [.agg [.int .i64 0,.int .i64 0,.nils,.int .i64 0,.int .i64 0],
 .int .i64 2])))
 (.ret
 (SV.tup
 [.agg [.int .i64 0,.int .i64 0,.nils,.int .i64 0,.int .i64 0],
 .int .i64 2])) := by kernel_rfl
theorem ns2_in : exec Try.prog [] 300 (entry Try.prog 51 [.int .i64 e,.int .i64 s,.int .i64 ap]) =
 Tree.br (decide (e ≥ 0))
 (.br (!decide (e ≤ 1073741824))
 (.ret
 (SV.tup
 [.agg [.int .i64 0,.int .i64 0,.nils,.int .i64 0,.int .i64 0],
 .int .i64 2]))
 (.br (decide (s ≥ 0))
 (.br (!decide (s < 4))
 (.ret
 (SV.tup
 [.agg [.int .i64 0,.int .i64 0,.nils,.int .i64 0,.int .i64 0],
 .int .i64 2]))
 (.br (decide (ap ≥ 0))
 (.br (!decide (ap ≤ 1073741824))
 (.ret
 (SV.tup
 [.agg
 [.int .i64 0,.int .i64 0,.nils,.int .i64 0,.int .i64 0],
 .int .i64 2]))
 (.ret
 (SV.tup
 [.agg
 [.int .i64 e,.int .i64 s,.nils,.int .i64 ap,.int .i64 ap],
 .int .i64 0])))
 (.ret
 (SV.tup
 [.agg [.int .i64 0,.int .i64 0,.nils,.int .i64 0,.int .i64 0],
 .int .i64 2]))))
 (.ret
 (SV.tup
 [.agg [.int .i64 0,.int .i64 0,.nils,.int .i64 0,.int .i64 0],
 .int .i64 2]))))
 (.ret
 (SV.tup
 [.agg [.int .i64 0,.int .i64 0,.nils,.int .i64 0,.int .i64 0],
 .int .i64 2])) := by kernel_rfl
theorem ct1_in : exec Try.prog [] 300 (entry Try.prog 56 [.agg [.int .i64 e,.int .i64 s,.int .i64 st,.int .i64 ap]]) =
 Tree.br (decide (e ≥ 0))
 (.br (!decide (e ≤ 1073741824))
 (.br (!decide (e ≤ 1073741824)) (.ret (.int .i64 2))
 (.br (decide (ap < 0))
 (.br (decide (ap < 0)) (.ret (.int .i64 3)) (.ret (.int .i64 0)))
 (.br (decide (st < ap))
 (.br (decide (st < ap)) (.ret (.int .i64 3)) (.ret (.int .i64 0)))
 (.br (decide (st > 1073741824)) (.ret (.int .i64 3)) (.ret (.int .i64 0))))))
 (.br (decide (s ≥ 0))
 (.br (!decide (s < 4)) (.ret (.int .i64 2))
 (.br (decide (ap < 0))
 (.br (decide (ap < 0)) (.ret (.int .i64 3)) (.ret (.int .i64 0)))
 (.br (decide (st < ap))
 (.br (decide (st < ap)) (.ret (.int .i64 3)) (.ret (.int .i64 0)))
 (.br (decide (st > 1073741824)) (.ret (.int .i64 3)) (.ret (.int .i64 0))))))
 (.ret (.int .i64 2))))
 (.ret (.int .i64 2)) := by kernel_rfl
theorem ct2_in : exec Try.prog [] 300 (entry Try.prog 59 [.agg [.int .i64 e,.int .i64 s,.int .i64 st,.int .i64 ap]]) =
 Tree.br (decide (e ≥ 0))
 (.br (!decide (e ≤ 1073741824)) (.ret (.int .i64 2))
 (.br (decide (s ≥ 0))
 (.br (!decide (s < 4)) (.ret (.int .i64 2))
 (.br (decide (ap < 0)) (.ret (.int .i64 3))
 (.br (decide (st < ap)) (.ret (.int .i64 3))
 (.br (decide (st > 1073741824)) (.ret (.int .i64 3)) (.ret (.int .i64 0))))))
 (.ret (.int .i64 2))))
 (.ret (.int .i64 2)) := by kernel_rfl
end
end Sv
end
noncomputable section
open Go Go.Proofs Sx
namespace Sx
theorem okRight_iff41 {e s a : Int} : okRight e s a = true ↔ (0 ≤ e ∧ e ≤ 1073741824) ∧ (0 ≤ s ∧ s < 4) ∧ 0 ≤ a ∧ a ≤ 1073741824 := by
 simp [okRight,okTime,okSite]; omega
theorem ret_src41 {P : Program} {H : HV} {w : World} {e s st ap n : Int} {r : Src × Int} (h : r = (⟨e,s,[],st,ap⟩,n)) : (Tree.ret (.tup [.agg [.int .i64 e,.int .i64 s,.nils,.int .i64 st,.int .i64 ap],.int .i64 n])).holds P ⟨w,H⟩ (RetD w H fun ds=>.tup [srcSV (ds 0) r.1,.int .i64 r.2]) := by
 obtain ⟨d,k1,k2,k3,k4⟩ := stands_nils (α := Int)
 subst h
 refine ⟨rfl,fun E H' w' g hv=>⟨H',after_good g,fun _=>d,fun E'=>?_,?_⟩⟩
 ·simp only [srcSV,SV.den,SV.denL,D.like_self k2 k3]
  rw [← k1 E]; rfl
 ·simp only [srcSV,SV.Ok,SV.OkL] at hv ⊢
  rw [D.like_self k2 k3]
  exact ⟨⟨trivial,trivial,⟨k4 _ trivial,k2.slc⟩,trivial,trivial,trivial⟩,trivial,trivial⟩
theorem ret_tgt41 {P : Program} {H : HV} {w : World} {t : Tgt} {n : Int} {r : Tgt × Int} (h : r = (t,n)) : (Tree.ret (.tup [.agg [.int .i64 t.epoch,.int .i64 t.site,.int .i64 t.stored,.int .i64 t.applied],.int .i64 n])).holds P ⟨w,H⟩ (RetD w H fun _=>.tup [tgtSV r.1,.int .i64 r.2]) := by
 subst h
 exact ⟨rfl,fun E H' w' g hv=>⟨H',after_good g,fun _=>.slc none 0 [],fun E'=>rfl,⟨⟨trivial,trivial,trivial,trivial,trivial⟩,trivial,trivial⟩⟩⟩
end Sx
namespace Sv

theorem lawNewS1 : Law Try.prog 49 ((rdInt.three rdInt rdInt).sp spNewS) := by
 refine law_in _ (by kernel_rfl) fun H w ⟨e,s,ap⟩ hok hp=>?_
 clear hp hok
 apply exec_sound (noCtr _) 300
 rw [show (rdInt.three rdInt rdInt).canon (e,s,ap) = [.int .i64 e,.int .i64 s,.int .i64 ap] from rfl,ns1_in]
 repeat' first
  | refine ⟨fun hc=>?_,fun hc=>?_⟩
  | refine ret_src41 ?_
 all_goals (simp at *; simp only [newSource]; by_cases hr : okRight e s ap = true <;> simp [hr] <;> rw [okRight_iff41] at hr <;> omega)
theorem lawNewS2 : Law Try.prog 51 ((rdInt.three rdInt rdInt).sp spNewS) := by
 refine law_in _ (by kernel_rfl) fun H w ⟨e,s,ap⟩ hok hp=>?_
 clear hp hok
 apply exec_sound (noCtr _) 300
 rw [show (rdInt.three rdInt rdInt).canon (e,s,ap) = [.int .i64 e,.int .i64 s,.int .i64 ap] from rfl,ns2_in]
 repeat' first
  | refine ⟨fun hc=>?_,fun hc=>?_⟩
  | refine ret_src41 ?_
 all_goals (simp at *; simp only [newSource]; by_cases hr : okRight e s ap = true <;> simp [hr] <;> rw [okRight_iff41] at hr <;> omega)
theorem lawNewT1 : Law Try.prog 48 ((rdInt.three rdInt rdInt).sp spNewT32) := by
 refine law_in _ (by kernel_rfl) fun H w ⟨e,s,ap⟩ hok hp=>?_
 clear hp hok
 apply exec_sound (noCtr _) 300
 rw [show (rdInt.three rdInt rdInt).canon (e,s,ap) = [.int .i64 e,.int .i64 s,.int .i64 ap] from rfl,nt1_in]
 repeat' first
  | refine ⟨fun hc=>?_,fun hc=>?_⟩
  | refine ret_tgt41 (t := ⟨e,s,ap,ap⟩) ?_
  | refine ret_tgt41 (t := ⟨0,0,0,0⟩) ?_
 all_goals (simp at *; simp only [newTarget]; by_cases hr : okRight e s ap = true <;> simp [hr] <;> rw [okRight_iff41] at hr <;> omega)
theorem lawNewT2 : Law Try.prog 50 ((rdInt.three rdInt rdInt).sp spNewT32) := by
 refine law_in _ (by kernel_rfl) fun H w ⟨e,s,ap⟩ hok hp=>?_
 clear hp hok
 apply exec_sound (noCtr _) 300
 rw [show (rdInt.three rdInt rdInt).canon (e,s,ap) = [.int .i64 e,.int .i64 s,.int .i64 ap] from rfl,nt2_in]
 repeat' first
  | refine ⟨fun hc=>?_,fun hc=>?_⟩
  | refine ret_tgt41 (t := ⟨e,s,ap,ap⟩) ?_
  | refine ret_tgt41 (t := ⟨0,0,0,0⟩) ?_
 all_goals (simp at *; simp only [newTarget]; by_cases hr : okRight e s ap = true <;> simp [hr] <;> rw [okRight_iff41] at hr <;> omega)
theorem lawCT1 : Law Try.prog 56 (rdTgt.one.sp spCT) := by
 refine law_in _ (by kernel_rfl) fun H w ⟨e,s,st,ap⟩ hok hp=>?_
 apply exec_sound (noCtr _) 300
 rw [show rdTgt.one.canon ⟨e,s,st,ap⟩ = [.agg [.int .i64 e,.int .i64 s,.int .i64 st,.int .i64 ap]] from rfl,ct1_in]
 repeat' first
  | refine ⟨fun hc=>?_,fun hc=>?_⟩
  | refine ret_int ?_
 all_goals (simp only [checkTarget,okTime,okSite]; simp at *; try (repeat' split) <;> simp_all <;> omega)
theorem lawCT2 : Law Try.prog 59 (rdTgt.one.sp spCT) := by
 refine law_in _ (by kernel_rfl) fun H w ⟨e,s,st,ap⟩ hok hp=>?_
 apply exec_sound (noCtr _) 300
 rw [show rdTgt.one.canon ⟨e,s,st,ap⟩ = [.agg [.int .i64 e,.int .i64 s,.int .i64 st,.int .i64 ap]] from rfl,ct2_in]
 repeat' first
  | refine ⟨fun hc=>?_,fun hc=>?_⟩
  | refine ret_int ?_
 all_goals (simp only [checkTarget,okTime,okSite]; simp at *; try (repeat' split) <;> simp_all <;> omega)
end Sv
end
noncomputable section
open Go Go.Proofs Sx
namespace Sv
def ctS32 : Ctrs := [(98,ctrOf ((rdD.two rdInt).sp spHas32)),(101,ctrOf ((rdD.two rdInt).sp spHas32))]
def hasL32 (P : Program) (d : D) (n j : Int) : Conf := Conf.mk (SFrm.mk 101 none none
 [Item.inLoop (cAt P 101 [1,0,1,0,0]),Item.inBlock 0,Item.code (cAt P 101 [1,1])]
 (mkJ 0 [(0,.dat d),(1,.int .i64 n),(5,.int .i64 j)] 0 18)) [] []
def idxL32 (P : Program) (d : D) (n : Int) (j : Int) : Conf := Conf.mk (SFrm.mk 127 none none [Item.inLoop (cAt P 127 [1,0,1,0,0]),Item.inBlock 0,Item.code (cAt P 127 [1,1])] (mkJ 0 [(0,.dat d),(1,.int .i64 n),(7,.int .i64 d.len),(8,.int .i64 j)] 0 19)) [] []
def cs1L (P : Program) (e s st ap : Int) (d : D) (last j : Int) : Conf := Conf.mk (SFrm.mk 57 none none
 [Item.inLoop (cAt P 57 [1,1,1,1,0,1,0,0]),Item.inBlock 0,Item.code (cAt P 57 [1,1,1,1,1])]
 (mkJ 0 [(1,.ptr 0 0),(3,.int .i64 last),(21,.dat d),(22,.int .i64 d.len),(23,.int .i64 j)] 0 49))
 [] [(0,.cells 34 [.int .i64 e,.int .i64 s,.dat d,.int .i64 st,.int .i64 ap])]
def cs2L (P : Program) (e s st ap : Int) (d : D) (last j : Int) : Conf := Conf.mk (SFrm.mk 60 none none
 [Item.inLoop (cAt P 60 [1,1,1,1,0,1,0,0]),Item.inBlock 0,Item.code (cAt P 60 [1,1,1,1,1])]
 (mkJ 0 [(1,.ptr 0 0),(3,.int .i64 last),(4,.int .i64 j)] 0 67))
 [] [(0,.cells 34 [.int .i64 e,.int .i64 s,.dat d,.int .i64 st,.int .i64 ap])]
section
variable (e s st ap j n last k m e' s' st' ap' : Int) (d d' : D) (o : D)
theorem has_go32 : exec Try.prog [] 300 (unroll (hasL32 Try.prog d n j)) =
 Tree.br (decide (j < (↑(D.len d) : Int)))
 (.need (0 ≤ j ∧ j < (↑(D.len d) : Int) ∧ D.sz d = 1)
 (.need (D.HasCell d (Int.toNat j) 0 (FT.int .i64))
 (.br (decide (D.getInt d (Int.toNat j) 0 = n)) (.ret (.lb true))
 (.leaf
 (Conf.mk
 (SFrm.mk 101 none none
 [Item.inLoop (cA 101 [1,0,1,0,0]),Item.inBlock 0,Item.code (cA 101 [1,1])]
 (mkJ 0
 [(0,.dat d),(1,.int .i64 n),(5,.int .i64 (IntKind.wrap .i64 (j + 1)))] 0
 18))
 [] [])))))
 (.ret (.lb false)) := by kernel_rfl
theorem idx_go32 : exec Try.prog [] 300 (unroll (idxL32 Try.prog d n j)) =
 Tree.br (decide (j < (↑(D.len d) : Int)))
 (.need (0 ≤ j ∧ j < (↑(D.len d) : Int) ∧ D.sz d = 1)
 (.need (D.HasCell d (Int.toNat j) 0 (FT.int .i64))
 (.br (decide (n = D.getInt d (Int.toNat j) 0)) (.ret (.int .i64 j))
 (.leaf
 (Conf.mk
 (SFrm.mk 127 none none
 [Item.inLoop (cA 127 [1,0,1,0,0]),Item.inBlock 0,Item.code (cA 127 [1,1])]
 (mkJ 0
 [(0,.dat d),(1,.int .i64 n),(7,.int .i64 (↑(D.len d) : Int)),
 (8,.int .i64 (IntKind.wrap .i64 (j + 1)))]
 0 19))
 [] [])))))
 (.ret (.int .i64 (Int.neg 1))) := by kernel_rfl
theorem cs1_go : exec Try.prog ctS32 300 (unroll (cs1L Try.prog e s st ap d last j)) =
 Tree.br (decide (j < (↑(D.len d) : Int)))
 (.need (0 ≤ j ∧ j < (↑(D.len d) : Int) ∧ D.sz d = 1)
 (.need (D.HasCell d (Int.toNat j) 0 (FT.int .i64))
 (.br (decide (D.getInt d (Int.toNat j) 0 ≤ last)) (.ret (.int .i64 3))
 (.br (decide (D.getInt d (Int.toNat j) 0 > 1073741824)) (.ret (.int .i64 3))
 (.leaf
 (Conf.mk
 (SFrm.mk 57 none none
 [Item.inLoop (cA 57 [1,1,1,1,0,1,0,0]),Item.inBlock 0,
 Item.code (cA 57 [1,1,1,1,1])]
 (mkJ 0
 [(1,.ptr 0 0),(3,.int .i64 (D.getInt d (Int.toNat j) 0)),(21,.dat d),
 (22,.int .i64 (↑(D.len d) : Int)),
 (23,.int .i64 (IntKind.wrap .i64 (j + 1)))]
 0 49))
 []
 [(0,
 OBlk.cells 34
 [.int .i64 e,.int .i64 s,.dat d,.int .i64 st,
 .int .i64 ap])]))))))
 (.br (st != ap)
 (.need (D.Is Int d ∧ D.len d ≤ 1048576)
 (.br (!List.contains (D.to Int d) st) (.ret (.int .i64 12)) (.ret (.int .i64 0))))
 (.ret (.int .i64 0))) := by kernel_rfl
theorem cs2_go : exec Try.prog ctS32 300 (unroll (cs2L Try.prog e s st ap d last j)) =
 Tree.br (decide (j < (↑(D.len d) : Int)))
 (.need (0 ≤ j ∧ j < (↑(D.len d) : Int) ∧ D.sz d = 1)
 (.need (D.HasCell d (Int.toNat j) 0 (FT.int .i64))
 (.br (decide (D.getInt d (Int.toNat j) 0 ≤ last)) (.ret (.int .i64 3))
 (.need (0 ≤ j ∧ j < (↑(D.len d) : Int) ∧ D.sz d = 1)
 (.need (D.HasCell d (Int.toNat j) 0 (FT.int .i64))
 (.br (decide (D.getInt d (Int.toNat j) 0 > 1073741824)) (.ret (.int .i64 3))
 (.need (0 ≤ j ∧ j < (↑(D.len d) : Int) ∧ D.sz d = 1)
 (.need (D.HasCell d (Int.toNat j) 0 (FT.int .i64))
 (.leaf
 (Conf.mk
 (SFrm.mk 60 none none
 [Item.inLoop (cA 60 [1,1,1,1,0,1,0,0]),Item.inBlock 0,
 Item.code (cA 60 [1,1,1,1,1])]
 (mkJ 0
 [(1,.ptr 0 0),(3,.int .i64 (D.getInt d (Int.toNat j) 0)),
 (4,.int .i64 (IntKind.wrap .i64 (j + 1)))]
 0 67))
 []
 [(0,
 OBlk.cells 34
 [.int .i64 e,.int .i64 s,.dat d,.int .i64 st,
 .int .i64 ap])]))))))))))
 (.br (st != ap)
 (.need (D.Is Int d ∧ D.len d ≤ 1048576)
 (.br (!List.contains (D.to Int d) st) (.ret (.int .i64 12)) (.ret (.int .i64 0))))
 (.ret (.int .i64 0))) := by kernel_rfl
theorem has_in32 : exec Try.prog [] 300 (entry Try.prog 101 [.dat d,.int .i64 n]) =
 Tree.leaf
 (Conf.mk
 (SFrm.mk 101 none none
 [Item.inLoop (cA 101 [1,0,1,0,0]),Item.inBlock 0,Item.code (cA 101 [1,1])]
 (mkJ 0 [(0,.dat d),(1,.int .i64 n),(5,.int .i64 0)] 0 18))
 [] []) := by kernel_rfl
theorem idx_in32 : exec Try.prog [] 300 (entry Try.prog 127 [.dat d,.int .i64 n]) =
 Tree.leaf
 (Conf.mk
 (SFrm.mk 127 none none
 [Item.inLoop (cA 127 [1,0,1,0,0]),Item.inBlock 0,Item.code (cA 127 [1,1])]
 (mkJ 0
 [(0,.dat d),(1,.int .i64 n),(7,.int .i64 (↑(D.len d) : Int)),
 (8,.int .i64 0)]
 0 19))
 [] []) := by kernel_rfl
theorem cs1_in : exec Try.prog [] 300 (entry Try.prog 57 [.agg [.int .i64 e,.int .i64 s,.dat d,.int .i64 st,.int .i64 ap]]) =
 Tree.br (decide (e ≥ 0))
 (.br (decide (e ≤ 1073741824))
 (.br (decide (s ≥ 0))
 (.br (decide (s < 4))
 (.br (decide (ap ≥ 0))
 (.br (!decide (ap ≤ 1073741824)) (.ret (.int .i64 2))
 (.br (decide ((↑(D.len d) : Int) > 1024)) (.ret (.int .i64 6))
 (.leaf
 (Conf.mk
 (SFrm.mk 57 none none
 [Item.inLoop (cA 57 [1,1,1,1,0,1,0,0]),Item.inBlock 0,
 Item.code (cA 57 [1,1,1,1,1])]
 (mkJ 0
 [(1,.ptr 0 0),(3,.int .i64 ap),(21,.dat d),
 (22,.int .i64 (↑(D.len d) : Int)),(23,.int .i64 0)]
 0 49))
 []
 [(0,
 OBlk.cells 34
 [.int .i64 e,.int .i64 s,.dat d,.int .i64 st,
 .int .i64 ap])]))))
 (.ret (.int .i64 2)))
 (.ret (.int .i64 2)))
 (.ret (.int .i64 2)))
 (.ret (.int .i64 2)))
 (.ret (.int .i64 2)) := by kernel_rfl
theorem cs2_in : exec Try.prog [] 300 (entry Try.prog 60 [.agg [.int .i64 e,.int .i64 s,.dat d,.int .i64 st,.int .i64 ap]]) =
 Tree.br (decide (e ≥ 0))
 (.br (!decide (e ≤ 1073741824)) (.ret (.int .i64 2))
 (.br (decide (s ≥ 0))
 (.br (!decide (s < 4)) (.ret (.int .i64 2))
 (.br (decide (ap ≥ 0))
 (.br (!decide (ap ≤ 1073741824)) (.ret (.int .i64 2))
 (.br (decide ((↑(D.len d) : Int) > 1024)) (.ret (.int .i64 6))
 (.leaf
 (Conf.mk
 (SFrm.mk 60 none none
 [Item.inLoop (cA 60 [1,1,1,1,0,1,0,0]),Item.inBlock 0,
 Item.code (cA 60 [1,1,1,1,1])]
 (mkJ 0 [(1,.ptr 0 0),(3,.int .i64 ap),(4,.int .i64 0)] 0 67))
 []
 [(0,
 OBlk.cells 34
 [.int .i64 e,.int .i64 s,.dat d,.int .i64 st,
 .int .i64 ap])]))))
 (.ret (.int .i64 2))))
 (.ret (.int .i64 2))))
 (.ret (.int .i64 2)) := by kernel_rfl
theorem contains_in32 : exec Try.prog [(127,ctrOf ((rdD.two rdInt).sp spIdx))] 300 (entry Try.prog 98 [.dat d,.int .i64 n]) =
 Tree.need (D.Is Int d ∧ D.len d ≤ 1048576) (.ret (.bool (decide (idxF (D.to Int d) n ≥ 0)))) := by kernel_rfl
end
theorem lawHas43 : Law Try.prog 101 ((rdD.two rdInt).sp spHas32) := by
 refine law_in _ (by kernel_rfl) fun H w ⟨d,n⟩ hok hp=>?_
 obtain ⟨hd,hlen⟩ := hp _ (List.mem_singleton.2 rfl)
 simp only at hd hlen
 rw [D.Is.length (α := Int)] at hlen
 apply exec_sound (noCtr _) 300
 rw [show (rdD.two rdInt).canon (d,n) = [.dat d,.int .i64 n] from rfl,has_in32]
 refine runs_loop (fun j : Nat=>hasL32 Try.prog d n j) (fun j=>j ≤ (d.to Int).length ∧ ((d.to Int).take j).contains n = false) (fun j=>(d.to Int).length - j) (fun _=>rfl) ?_ 0 ⟨Nat.zero_le _,by simp⟩
 intro j ⟨hj,hpre⟩ ih
 apply exec_sound (noCtr _) 300
 rw [has_go32]
 have hl := D.Is.length (α := Int) d
 refine ⟨fun hc=>?_,fun hc=>?_⟩
 ·simp [hl] at hc
  obtain ⟨c1,c2,c3⟩ := int_at hd hc
  rw [c3]
  refine ⟨c1,c2,fun hc2=>ret_lb ?_,fun hc2=>?_⟩
  ·simp at hc2
   symm
   rw [List.contains_iff_mem,← hc2]
   exact List.getElem_mem hc
  ·have := ih (j + 1) ⟨hc,by rw [take_has hc,hpre]; simpa using hc2⟩ (by omega)
   rw [← wrap_succ hc hlen] at this
   exact this
 ·simp [hl] at hc
  have : j = (d.to Int).length := by omega
  subst this
  rw [List.take_length] at hpre
  exact ret_lb hpre.symm
theorem lawIdx32 : Law Try.prog 127 ((rdD.two rdInt).sp spIdx) := by
 refine law_in _ (by kernel_rfl) fun H w ⟨d,n⟩ hok hp=>?_
 obtain ⟨hd,hlen⟩ := hp _ (List.mem_singleton.2 rfl)
 simp only at hd hlen
 rw [D.Is.length (α := Int)] at hlen
 apply exec_sound (noCtr _) 300
 rw [show (rdD.two rdInt).canon (d,n) = [.dat d,.int .i64 n] from rfl,idx_in32]
 refine runs_loop (fun j : Nat=>idxL32 Try.prog d n j) (fun j=>j ≤ (d.to Int).length ∧ ((d.to Int).take j).findIdx? (fun x=>n == x) = none) (fun j=>(d.to Int).length - j) (fun _=>rfl) ?_ 0 ⟨Nat.zero_le _,by simp⟩
 intro j ⟨hj,hpre⟩ ih
 apply exec_sound (noCtr _) 300
 rw [idx_go32]
 have hl := D.Is.length (α := Int) d
 refine ⟨fun hc=>?_,fun hc=>?_⟩
 ·simp [hl] at hc
  obtain ⟨c1,c2,c3⟩ := int_at hd hc
  rw [c3]
  refine ⟨c1,c2,fun hc2=>ret_int ?_,fun hc2=>?_⟩
  ·have : (d.to Int).findIdx? (fun x=>n == x) = some j := by
    rw [List.findIdx?_eq_some_iff_getElem]
    refine ⟨hc,hc2,fun i hi=>?_⟩
    rw [List.findIdx?_eq_none_iff] at hpre
    have := hpre (d.to Int)[i] (List.mem_take_iff_getElem.2 ⟨i,by omega,rfl⟩)
    simpa using this
   simp [idxF,this]
  ·have := ih (j + 1) ⟨hc,by rw [List.take_succ_eq_append_getElem hc,List.findIdx?_append,hpre]; simp at hc2; simp [hc2]⟩ (by omega)
   rw [← wrap_succ hc hlen] at this
   exact this
 ·simp [hl] at hc
  have : j = (d.to Int).length := by omega
  subst this
  rw [List.take_length] at hpre
  exact ret_int (by simp only [idxF,hpre]; rfl)
theorem ctIdx32 : Ctrs.Ok Try.prog [(127,ctrOf ((rdD.two rdInt).sp spIdx))] := by
 intro x hx
 rw [List.mem_singleton.1 hx]
 exact ctrOf_ok lawIdx32
theorem idxF_has (xs : List Int) (n : Int) : decide (idxF xs n ≥ 0) = xs.contains n := by
 rw [Bool.eq_iff_iff,List.contains_iff_mem]
 simp only [idxF,ge_iff_le,decide_eq_true_eq]
 cases hf : xs.findIdx? (fun x=>n == x) with
 | none =>
  rw [List.findIdx?_eq_none_iff] at hf
  simp only
  constructor
  ·intro h; omega
  ·intro h; have := hf n h; simp at this
 | some i =>
  rw [List.findIdx?_eq_some_iff_getElem] at hf
  obtain ⟨hi,h1,_⟩ := hf
  simp at h1
  simp only [h1,List.getElem_mem,iff_true]
  omega
theorem lawHas42 : Law Try.prog 98 ((rdD.two rdInt).sp spHas32) := by
 refine law_in _ (by kernel_rfl) fun H w ⟨d,n⟩ hok hp=>?_
 apply exec_sound ctIdx32 300
 rw [show (rdD.two rdInt).canon (d,n) = [.dat d,.int .i64 n] from rfl,contains_in32]
 exact ⟨hp _ (List.mem_singleton.2 rfl),ret_bool (idxF_has _ _)⟩
theorem ctS32Ok : Ctrs.Ok Try.prog ctS32 := by
 intro x hx
 simp only [ctS32,List.mem_cons,List.not_mem_nil,or_false] at hx
 rcases hx with rfl | rfl
 ·exact ctrOf_ok lawHas42
 ·exact ctrOf_ok lawHas43
theorem asc_drop {xs : List Int} {j : Nat} (h : j < xs.length) (l : Int) : asc32 l (xs.drop j) = (decide (l < xs[j]) && decide (xs[j] ≤ 1073741824) && asc32 xs[j] (xs.drop (j + 1))) := by
 rw [List.drop_eq_getElem_cons h]; rfl
theorem cs_eq {e s st ap : Int} {xs : List Int} (h1 : okRight e s ap = true) (h2 : xs.length ≤ 1024) :
  checkSource ⟨e,s,xs,st,ap⟩ = if asc32 ap xs = false then 3 else if st ≠ ap ∧ st ∉ xs then 12 else 0 := by
 simp only [checkSource,h1,Bool.true_eq_false,if_false]
 rw [if_neg (by omega)]
theorem cs1_loop {H : HV} {d : D} (hd : d.Is Int) (e s st ap : Int) (w : World) (h1 : okRight e s ap = true) (h2 : (d.to Int).length ≤ 1024) :
  Runs Try.prog ⟨w,H⟩ (cs1L Try.prog e s st ap d ap 0) (RetS w H (.int .i64 (checkSource ⟨e,s,d.to Int,st,ap⟩))) := by
 have hcs := cs_eq (st := st) h1 h2
 refine runs_loop (fun p : Int × Nat=>cs1L Try.prog e s st ap d p.1 p.2) (fun p=>p.2 ≤ (d.to Int).length ∧ asc32 ap (d.to Int) = asc32 p.1 ((d.to Int).drop p.2)) (fun p=>(d.to Int).length - p.2) (fun _=>rfl) ?_ (ap,0) ⟨Nat.zero_le _,by simp⟩
 intro ⟨last,j⟩ ⟨hj,hpre⟩ ih
 simp only at hj hpre
 apply exec_sound ctS32Ok 300
 rw [cs1_go]
 have hl := D.Is.length (α := Int) d
 refine ⟨fun hc=>?_,fun hc=>?_⟩
 ·simp [hl] at hc
  obtain ⟨c1,c2,c3⟩ := int_at hd hc
  rw [c3]
  rw [asc_drop hc] at hpre
  refine ⟨c1,c2,fun hc2=>ret_int ?_,fun hc2=>⟨fun hc3=>ret_int ?_,fun hc3=>?_⟩⟩
  ·simp at hc2
   rw [hcs,hpre]
   simp; omega
  ·simp at hc3
   rw [hcs,hpre]
   simp; omega
  ·have := ih ((d.to Int)[j],j + 1) ⟨hc,by simp at hc2 hc3; rw [hpre]; simp; omega⟩ (by simp; omega)
   simp only at this
   rw [← wrap_succ hc (by omega)] at this
   exact this
 ·simp [hl] at hc
  have : j = (d.to Int).length := by omega
  subst this
  simp [asc32] at hpre
  rw [hcs,hpre]
  refine ⟨fun hc2=>⟨⟨hd,by rw [hl]; omega⟩,fun hc3=>ret_int ?_,fun hc3=>ret_int ?_⟩,fun hc2=>ret_int ?_⟩
  ·simp at hc2 hc3; simp [hc2,hc3]
  ·simp at hc2 hc3; simp [hc2,hc3]
  ·simp at hc2; simp [hc2]
theorem cs2_loop {H : HV} {d : D} (hd : d.Is Int) (e s st ap : Int) (w : World) (h1 : okRight e s ap = true) (h2 : (d.to Int).length ≤ 1024) :
  Runs Try.prog ⟨w,H⟩ (cs2L Try.prog e s st ap d ap 0) (RetS w H (.int .i64 (checkSource ⟨e,s,d.to Int,st,ap⟩))) := by
 have hcs := cs_eq (st := st) h1 h2
 refine runs_loop (fun p : Int × Nat=>cs2L Try.prog e s st ap d p.1 p.2) (fun p=>p.2 ≤ (d.to Int).length ∧ asc32 ap (d.to Int) = asc32 p.1 ((d.to Int).drop p.2)) (fun p=>(d.to Int).length - p.2) (fun _=>rfl) ?_ (ap,0) ⟨Nat.zero_le _,by simp⟩
 intro ⟨last,j⟩ ⟨hj,hpre⟩ ih
 simp only at hj hpre
 apply exec_sound ctS32Ok 300
 rw [cs2_go]
 have hl := D.Is.length (α := Int) d
 refine ⟨fun hc=>?_,fun hc=>?_⟩
 ·simp [hl] at hc
  obtain ⟨c1,c2,c3⟩ := int_at hd hc
  rw [c3]
  rw [asc_drop hc] at hpre
  refine ⟨c1,c2,fun hc2=>ret_int ?_,fun hc2=>⟨c1,c2,fun hc3=>ret_int ?_,fun hc3=>⟨c1,c2,?_⟩⟩⟩
  ·simp at hc2
   rw [hcs,hpre]
   simp; omega
  ·simp at hc3
   rw [hcs,hpre]
   simp; omega
  ·have := ih ((d.to Int)[j],j + 1) ⟨hc,by simp at hc2 hc3; rw [hpre]; simp; omega⟩ (by simp; omega)
   simp only at this
   rw [← wrap_succ hc (by omega)] at this
   exact this
 ·simp [hl] at hc
  have : j = (d.to Int).length := by omega
  subst this
  simp [asc32] at hpre
  rw [hcs,hpre]
  refine ⟨fun hc2=>⟨⟨hd,by rw [hl]; omega⟩,fun hc3=>ret_int ?_,fun hc3=>ret_int ?_⟩,fun hc2=>ret_int ?_⟩
  ·simp at hc2 hc3; simp [hc2,hc3]
  ·simp at hc2 hc3; simp [hc2,hc3]
  ·simp at hc2; simp [hc2]
theorem lawCS1 : Law Try.prog 57 (rdSrc.one.sp spCS) := by
 refine law_in _ (by kernel_rfl) fun H w ⟨e,s,d,st,ap⟩ hok hp=>?_
 have hd : d.Is Int := hp _ (List.mem_singleton.2 rfl)
 apply exec_sound (noCtr _) 300
 rw [show rdSrc.one.canon ⟨e,s,d,st,ap⟩ = [.agg [.int .i64 e,.int .i64 s,.dat d,.int .i64 st,.int .i64 ap]] from rfl,cs1_in]
 have hl := D.Is.length (α := Int) d
 clear hp
 repeat' first
  | refine ⟨fun hc=>?_,fun hc=>?_⟩
  | refine ret_int ?_
 all_goals first
  | exact cs1_loop hd e s st ap w (by rw [okRight_iff41]; simp at *; omega) (by simp at *; omega)
  | (simp at *; simp only [checkSource,SrcD.src]; by_cases hr : okRight e s ap = true <;> simp [hr] <;> rw [okRight_iff41] at hr <;> omega)
theorem lawCS2 : Law Try.prog 60 (rdSrc.one.sp spCS) := by
 refine law_in _ (by kernel_rfl) fun H w ⟨e,s,d,st,ap⟩ hok hp=>?_
 have hd : d.Is Int := hp _ (List.mem_singleton.2 rfl)
 apply exec_sound (noCtr _) 300
 rw [show rdSrc.one.canon ⟨e,s,d,st,ap⟩ = [.agg [.int .i64 e,.int .i64 s,.dat d,.int .i64 st,.int .i64 ap]] from rfl,cs2_in]
 have hl := D.Is.length (α := Int) d
 clear hp
 repeat' first
  | refine ⟨fun hc=>?_,fun hc=>?_⟩
  | refine ret_int ?_
 all_goals first
  | exact cs2_loop hd e s st ap w (by rw [okRight_iff41]; simp at *; omega) (by simp at *; omega)
  | (simp at *; simp only [checkSource,SrcD.src]; by_cases hr : okRight e s ap = true <;> simp [hr] <;> rw [okRight_iff41] at hr <;> omega)
end Sv
end
noncomputable section
namespace Sx
open Go RowKit
def rowD (b : Nat) (row : List D) : D := .slc (some (⟨b,0,none⟩,1)) row.length [row]






theorem get_pub_cells {m : Mem} {k : Nat} {t : TypeId} {cs : List SV} (h : m.get k = some (.cells t cs)) (x : SV) : (pubR m x).get k = some (.cells t cs) := by
 unfold pubR
 split
 ·rename_i j
  split
  ·rename_i e d hj
   have hne : k ≠ j := by rintro rfl; rw [h] at hj; cases hj
   rw [Mem.get_set hj]
   simp [hne,h]
  ·exact h
 ·exact h

theorem get_pubs_cells {k : Nat} {t : TypeId} {cs : List SV} : ∀ (l : List SV) {m : Mem},m.get k = some (.cells t cs) → (pubsR l m).get k = some (.cells t cs)
 | [],_,h=>h
 | x :: r,_,h=>get_pubs_cells r (get_pub_cells h x)

end Sx
end
noncomputable section
namespace Sx
open Go RowKit Go.Sort



theorem roM_arr : ∀ {m : Mem} {k : Nat} {e : TypeId} {d : D},roM m = true → m.get k = some (.arr e d) → False
 | [],_,_,_,_,h=>by simp [Mem.get] at h
 | (j,o) :: r,k,e,d,h,hg=>by
  simp only [Mem.get] at hg
  split at hg
  ·cases hg; simp [roM] at h
  ·cases o <;> simp [roM] at h
   ·exact roM_arr h hg
   ·exact roM_arr h hg
   ·exact roM_arr h hg







end Sx
end
noncomputable section
namespace Sx
open Go RowKit








end Sx
end
noncomputable section
namespace Sx
open Go RowKit
def viewOut (k b off : Nat) (c : Conf) : Option (Prop × Conf) :=
 match c.mem.get k with
 | some (.arr _ d)=>match (c.mem.set k (.pub d)).get b with
  | some (.cells t cs)=>match cs[off]? with
   | some (.view j s lo n)=>match Nat.beq j k with
    | true=>some (d.sz = s ∧ lo + n ≤ d.len,⟨c.top,c.rest,(c.mem.set k (.pub d)).set b (.cells t (cs.set off (.dat (d.sub lo (lo + n)))))⟩)
    | false=>none
   | _=>none
  | _=>none
 | _=>none
theorem viewOut_to {P : Program} {C : Ctx} {R : Value → World → Prop} (k b off : Nat) {c : Conf} (p : Prop) (c' : Conf) (hc : viewOut k b off c = some (p,c')) (hp : p) (h : Runs P C c' R) : Runs P C c R := by
 intro E H w g ok
 unfold viewOut at hc
 split at hc
 ·rename_i e d hg
  split at hc
  ·rename_i t cs hg2
   split at hc
   ·rename_i j s lo n hn
    split at hc
    ·rename_i hj
     have hj : j = k := Nat.eq_of_beq_eq_true hj
     subst hj
     simp only [Option.some.injEq,Prod.mk.injEq] at hc
     obtain ⟨hpe,hce⟩ := hc
     subst hpe
     obtain ⟨p1,p2⟩ := hp
     obtain ⟨H',hle,g1,dok,_⟩ := g.publish hg
     obtain ⟨hd,sz,rows,rfl,hv,_⟩ := g.own j _ (Mem.get_mem hg)
     have hsub := (sub_ok dok (l := lo) (h := lo + n) (by omega) p2).1
     have hden1 : (SV.dat ((D.slc hd sz rows).sub lo (lo + n))).den E = (SV.view j s lo n).den E := by
      simp only [D.len,D.rows] at p2
      simp only [D.sz] at p1
      subst p1
      have e2 : ((rows.drop lo).take n).length = n := by rw [List.length_take,List.length_drop]; omega
      simp only [SV.den,hv,D.sub,D.val,D.hd,D.rows,D.sz,Nat.add_sub_cancel_left,e2]
      rfl
     have hmem := Mem.get_mem hg2
     have hden : SV.denL E (cs.set off (.dat ((D.slc hd sz rows).sub lo (lo + n)))) = SV.denL E cs := by
      rw [denL_set,SV.denL_eq]
      apply List.ext_getElem?
      intro i
      by_cases hi : i = off
      ·subst hi
       rw [List.getElem?_set_self (by have := (List.getElem?_eq_some_iff.1 hn).1; simpa using this)]
       simp only [List.getElem?_map,hn,Option.map_some,hden1]
      ·rw [List.getElem?_set_ne (Ne.symm hi)]
     have hspec := Mem.set_spec (o' := .cells t (cs.set off (.dat ((D.slc hd sz rows).sub lo (lo + n))))) g1.keys hg2
     have g2 : Good C ((c.mem.set j (.pub (D.slc hd sz rows))).set b (.cells t (cs.set off (.dat ((D.slc hd sz rows).sub lo (lo + n)))))) E H' w := by
      refine ⟨g1.below,g1.ext,g1.fresh,g1.cell,fun k o hko=>?_,?_,fun x y hx hy hne hlx hly=>?_,g1.fix⟩
      ·rcases hspec k o hko with ⟨rfl,rfl⟩ | ⟨hne,hm⟩
       ·obtain ⟨a1,a2,a3,a4⟩ := g1.own k _ hmem
        exact ⟨a1,by rw [hden]; exact a2,a3,okL_putS (dst := some off) a4 ⟨hsub,_,_,_,rfl⟩⟩
       ·exact g1.own k o hm
      ·have := g1.keys
       rw [pairwise_keys] at this ⊢
       simpa [Mem.set_keys] using this
      ·have old : ∀ z : Nat × OBlk,z ∈ (c.mem.set j (.pub (D.slc hd sz rows))).set b (.cells t (cs.set off (.dat ((D.slc hd sz rows).sub lo (lo + n))))) → z.2.Lies → ∃ o,(z.1,o) ∈ c.mem.set j (.pub (D.slc hd sz rows)) ∧ o.Lies := by
        intro z hz hl
        rcases hspec z.1 z.2 hz with ⟨h1,h2⟩ | ⟨_,hm⟩
        ·exact ⟨.cells t cs,by rw [h1]; exact hmem,trivial⟩
        ·exact ⟨_,hm,hl⟩
       obtain ⟨ox,hx1,hx2⟩ := old x hx hlx
       obtain ⟨oy,hy1,hy2⟩ := old y hy hly
       exact g1.apart (x.1,ox) (y.1,oy) hx1 hy1 hne hx2 hy2
     subst hce
     exact h E H' w g2 ⟨SV.OkL.mono hle _ ok.1,fun f hf=>SV.OkL.mono hle _ (ok.2 f hf)⟩
    ·cases hc
   ·cases hc
  ·cases hc
 ·cases hc
end Sx
end
noncomputable section
open Go Go.Proofs Sx
namespace Sv
def ctO : Ctrs := [(57,ctrOf (rdSrc.one.sp spCS)),(98,ctrOf ((rdD.two rdInt).sp spHas32)),(127,ctrOf ((rdD.two rdInt).sp spIdx)),(104,oCtr (spClone Int 3))]
section
variable (e s st ap n mk mf mt mn mv me : Int) (d mb ml : D)
theorem ofr_in : 
 let z2 : List SV := [.int .i64 0,.int .i64 0,.nils,.int .i64 0,.int .i64 0]
 let z1 : Tree := (.br (decide (n > 1073741824)) (.ret (SV.tup [.agg z2,.nils,.int .i64 2])) (.br (decide ((↑(D.len d) : Int) ≥ 1024)) (.ret (SV.tup [.agg z2,.nils,.int .i64 6])) (.need (D.Is Int d ∧ D.len d ≤ 1048576) (.all fun hs=>.all fun hs_1=>.need (D.sz (D.slc (D.hd (hs 0 0)) 1 (D.rows d)) = 1 ∧ D.Fits (D.slc (D.hd (hs_1 0 0)) 1 [[D.int .i64 n]]) 1 ∧ (D.len (D.slc (D.hd (hs 0 0)) 1 (D.rows d)) + D.len (D.slc (D.hd (hs_1 0 0)) 1 [[D.int .i64 n]])) * 8 ≤ 140737488355328 ∧ D.len (D.slc (D.hd (hs 0 0)) 1 (D.rows d)) + D.len (D.slc (D.hd (hs_1 0 0)) 1 [[D.int .i64 n]]) ≤ 9223372036854775807) (.all fun hs_2=>.all fun hs_3=>.need (D.Fits (D.slc (D.hd (hs_3 18 0)) 8 [[D.int .i64 8,D.int .i64 0,D.int .i64 s,D.int .i64 n,D.int .i64 0,D.int .i64 e,D.slc none 0 [],D.slc none 0 []]]) 8 ∧ D.len (D.slc (D.hd (hs_3 18 0)) 8 [[D.int .i64 8,D.int .i64 0,D.int .i64 s,D.int .i64 n,D.int .i64 0,D.int .i64 e,D.slc none 0 [],D.slc none 0 []]]) * 96 ≤ 140737488355328 ∧ D.len (D.slc (D.hd (hs_3 18 0)) 8 [[D.int .i64 8,D.int .i64 0,D.int .i64 s,D.int .i64 n,D.int .i64 0,D.int .i64 e,D.slc none 0 [],D.slc none 0 []]]) ≤ 9223372036854775807) (.all fun hs_4=>.ret (SV.tup [.agg [.int .i64 e,.int .i64 s,.dat (D.slc (D.hd (hs_2 0 0)) 1 (List.append (D.rows (D.slc (D.hd (hs 0 0)) 1 (D.rows d))) (D.rows (D.slc (D.hd (hs_1 0 0)) 1 [[D.int .i64 n]])))),.int .i64 st,.int .i64 ap],.dat (D.slc (D.hd (hs_3 19 0)) 8 (D.rows (D.slc (D.hd (hs_3 18 0)) 8 [[D.int .i64 8,D.int .i64 0,D.int .i64 s,D.int .i64 n,D.int .i64 0,D.int .i64 e,D.slc none 0 [],D.slc none 0 []]]))),.int .i64 0])))))))
 exec Try.prog ctO 400 (entry Try.prog 89 [.agg [.int .i64 e,.int .i64 s,.dat d,.int .i64 st,.int .i64 ap],.int .i64 n]) =
 Tree.need (D.Is Int d) (.br (checkSource (SrcD.src (SrcD.mk e s d st ap)) != 0) (.ret (SV.tup [.agg z2,.nils,.int .i64 (checkSource (SrcD.src (SrcD.mk e s d st ap)))])) (.br (decide ((↑(D.len d) : Int) > 0))
 (.need (0 ≤ IntKind.wrap .i64 ((↑(D.len d) : Int) - 1) ∧ IntKind.wrap .i64 ((↑(D.len d) : Int) - 1) < (↑(D.len d) : Int) ∧ D.sz d = 1) (.need (D.HasCell d (Int.toNat (IntKind.wrap .i64 ((↑(D.len d) : Int) - 1))) 0
 (FT.int .i64)) (.br (decide (n ≤ D.getInt d (Int.toNat (IntKind.wrap .i64 ((↑(D.len d) : Int) - 1))) 0)) (.ret (SV.tup [.agg z2,.nils,.int .i64 8])) z1))) (.br (decide (n ≤ ap)) (.ret (SV.tup [.agg z2,.nils,.int .i64 8])) z1))) := by
 intros; kernel_rfl
theorem lrn_in : 
 let z1 : Tree := (.ret (SV.tup [.agg [.int .i64 e,.int .i64 s,.dat d,.int .i64 st,.int .i64 ap],.nils]))
 let z2 : Tree := (.all fun hs=>.all fun hs=>.ret (SV.tup [.agg [.int .i64 me,.int .i64 s,.nils,.int .i64 ap,.int .i64 ap],.nils]))
 goS Try.prog ctO (fun _=>false) [(119,26)] 600 (entry Try.prog 80 [.agg [.int .i64 e,.int .i64 s,.dat d,.int .i64 st,.int .i64 ap],.agg [.int .i64 mk,.int .i64 mf,.int .i64 mt,.int .i64 mn,.int .i64 mv,.int .i64 me,.dat mb,.dat ml]]) =
 Tree.need (D.Is Int d) (.br (checkSource (SrcD.src (SrcD.mk e s d st ap)) != 0) z1 (.br (mf != s) z1 (.br (decide (me < e)) z1 (.br (decide (me ≥ 0)) (.br (!decide (me ≤ 1073741824)) z1 (.need (D.Is Int d ∧ D.len d ≤ 1048576)
 (.all fun hs=>.br (decide (mk = 9)) (.br (decide (me > e)) z2 (.need (D.Is Int (D.slc (D.hd (hs 0 0)) 1 (D.rows d)) ∧ D.len (D.slc (D.hd (hs 0 0)) 1 (D.rows d)) ≤ 1048576) (.br (List.contains (D.to Int
 (D.slc (D.hd (hs 0 0)) 1 (D.rows d))) mv) (.br (decide (mv ≥ st)) (.all fun hs_1=>.need (D.Fits (D.slc (D.hd (hs_1 18 0)) 8 [[D.int .i64 10,D.int .i64 0,D.int .i64 s,D.int .i64 mv,D.int .i64 0,D.int .i64 e,D.slc none 0 [],D.slc none 0 []]]) 8 ∧ D.len
 (D.slc (D.hd (hs_1 18 0)) 8 [[D.int .i64 10,D.int .i64 0,D.int .i64 s,D.int .i64 mv,D.int .i64 0,D.int .i64 e,D.slc none 0 [],D.slc none 0 []]]) * 96 ≤ 140737488355328 ∧ D.len (D.slc (D.hd (hs_1 18 0)) 8 [[D.int .i64 10,D.int .i64 0,D.int .i64 s,D.int .i64 mv,D.int .i64 0,D.int .i64 e,D.slc none 0 [],D.slc none 0 []]]) ≤ 9223372036854775807)
 (.all fun hs_2=>.ret (SV.tup [.agg [.int .i64 e,.int .i64 s,.dat (D.slc (D.hd (hs 0 0)) 1 (D.rows d)),.int .i64 mv,.int .i64 ap],.dat (D.slc (D.hd (hs_1 19 0)) 8 (D.rows (D.slc (D.hd (hs_1 18 0)) 8 [[D.int .i64 10,D.int .i64 0,D.int .i64 s,D.int .i64 mv,D.int .i64 0,D.int .i64 e,D.slc none 0 [],D.slc none 0 []]])))])))
 (.all fun hs_1=>.ret (SV.tup [.agg [.int .i64 e,.int .i64 s,.dat (D.slc (D.hd (hs 0 0)) 1 (D.rows d)),.int .i64 st,.int .i64 ap],.nils]))) (.all fun hs_1=>.ret (SV.tup [.agg [.int .i64 e,.int .i64 s,.dat
 (D.slc (D.hd (hs 0 0)) 1 (D.rows d)),.int .i64 st,.int .i64 ap],.nils]))))) (.br (decide (mk = 11)) (.br (decide (me > e)) z2 (.need (D.Is Int (D.slc (D.hd (hs 0 0)) 1 (D.rows d)) ∧ D.len (D.slc (D.hd
 (hs 0 0)) 1 (D.rows d)) ≤ 1048576) (.br (decide (idxF (D.to Int (D.slc (D.hd (hs 0 0)) 1 (D.rows d))) mv ≥ 0)) (.need (0 ≤ IntKind.wrap .i64 (idxF (D.to Int (D.slc (D.hd (hs 0 0)) 1 (D.rows d))) mv + 1) ∧ IntKind.wrap .i64
 (idxF (D.to Int (D.slc (D.hd (hs 0 0)) 1 (D.rows d))) mv + 1) ≤ (↑(D.len (D.slc (D.hd (hs 0 0)) 1 (D.rows d))) : Int) ∧ D.Fits (D.slc (D.hd (hs 0 0)) 1 (D.rows d)) 1) (.leaf (Conf.mk (SFrm.mk 119 none none [Item.code
 (cA 119 [1,1,0,1])] (mkJ 1 [(0,.ptr 0 0),(1,.int .i64 mv)] 0 42)) [SFrm.mk 80 (some (oA 80 [1,1,1,1,0,0,1,1,1,1],[])) (some 52) [Item.inBlock 0,Item.code (cA 80 [1,1,1,1,1])] (mkJ 0 [(4,.ptr 1 0),
 (6,.ptr 0 0)] 0 89)] [(0,OBlk.cells 167 [.int .i64 e,.int .i64 s,.view 2 1 (Int.toNat (IntKind.wrap .i64 (idxF (D.to Int (D.slc (D.hd (hs 0 0)) 1 (D.rows d))) mv + 1))) (D.len (D.slc (D.hd (hs 0 0)) 1
 (D.rows d)) - Int.toNat (IntKind.wrap .i64 (idxF (D.to Int (D.slc (D.hd (hs 0 0)) 1 (D.rows d))) mv + 1))),.int .i64 st,.int .i64 ap,.nils]),(1,OBlk.cells 34 [.int .i64 0,.int .i64 0,.nils,.int .i64 0,.int .i64 0]),
 (2,OBlk.arr 3 (D.slc (D.hd (hs 0 0)) 1 (D.rows d)))]))) (.all fun hs_1=>.ret (SV.tup [.agg [.int .i64 e,.int .i64 s,.dat (D.slc (D.hd (hs 0 0)) 1 (D.rows d)),.int .i64 st,.int .i64 ap],.nils])))))
 (.br (decide (mk = 12)) (.br (decide (me > e)) z2 (.all fun hs_1=>.ret (SV.tup [.agg [.int .i64 e,.int .i64 s,.dat (D.slc (D.hd (hs 0 0)) 1 (D.rows d)),.int .i64 st,.int .i64 ap],.nils]))) (.all fun hs_1=>.ret
 (SV.tup [.agg [.int .i64 e,.int .i64 s,.dat (D.slc (D.hd (hs 0 0)) 1 (D.rows d)),.int .i64 st,.int .i64 ap],.nils]))))))) z1)))) := by
 intros; kernel_rfl
end
def lrA (e s st ap mv : Int) (x y : D) : Conf := Conf.mk (SFrm.mk 119 none none [Item.code (cA 119 [1,1,0,1])] (mkJ 1 [(0,.ptr 0 0),(1,.int .i64 mv)] 0 42)) [SFrm.mk 80 (some (oA 80 [1,1,1,1,0,0,1,1,1,1],[])) (some 52) [Item.inBlock 0,Item.code (cA 80 [1,1,1,1,1])] (mkJ 0 [(4,.ptr 1 0),(6,.ptr 0 0)] 0 89)] [(0,OBlk.cells 167 [.int .i64 e,.int .i64 s,.dat y,.int .i64 st,.int .i64 ap,.nils]),(1,OBlk.cells 34 [.int .i64 0,.int .i64 0,.nils,.int .i64 0,.int .i64 0]),(2,OBlk.pub x)]
section
variable (e s st ap mv : Int) (x y : D)
theorem lrA_go : exec Try.prog ctO 300 (lrA e s st ap mv x y) =
 Tree.all fun hs =>
 .ret
 (SV.tup
 [.agg
 [.int .i64 e,.int .i64 s,.dat y,.int .i64 (if mv > st then mv else st),
 .int .i64 mv],
 .nils]) := by kernel_rfl
end
end Sv
end
noncomputable section
open Go
namespace Sx
theorem okRight_iff66 {e s a : Int} : okRight e s a = true ↔ (0 ≤ e ∧ e ≤ 1073741824) ∧ (0 ≤ s ∧ s < 4) ∧ 0 ≤ a ∧ a ≤ 1073741824 := by
 simp [okRight,okTime,okSite]; omega
theorem cs_len {x : Src} (h : checkSource x = 0) : x.offered.length ≤ 1024 := by
 unfold checkSource at h
 split at h
 ·cases h
 ·split at h
  ·cases h
  ·omega
theorem msg_row {a b c d e f : Int} {m : Msg} (hm : m = ⟨a,b,c,d,e,f,[],[]⟩) :
  SRows Msg [[.int .i64 a,.int .i64 b,.int .i64 c,.int .i64 d,.int .i64 e,.int .i64 f,.slc none 0 [],.slc none 0 []]] [m] := by
 subst hm
 exact rows_one (ok_msg ..) rfl
theorem lastOf_get {a : Int} {l : List Int} (h : 0 < l.length) : lastOf a l = l[l.length - 1] := by
 unfold lastOf
 rw [List.getLastD_eq_getLast?,List.getLast?_eq_getElem?,List.getElem?_eq_getElem (by omega)]
 rfl
theorem cs_e {e s st ap : Int} {xs : List Int} (h : checkSource ⟨e,s,xs,st,ap⟩ = 0) : 0 ≤ e ∧ asc32 ap xs = true := by
 unfold checkSource at h
 split at h
 ·cases h
 ·rename_i hr
  split at h
  ·cases h
  ·split at h
   ·cases h
   ·rename_i ha
    rw [Bool.not_eq_false,okRight_iff66] at hr
    exact ⟨hr.1.1,by simpa using ha⟩
theorem asc_gt : ∀ {xs : List Int} {l : Int},asc32 l xs = true → ∀ x,x ∈ xs → l < x
 | [],_,_,x,hx=>by cases hx
 | y :: r,l,h,x,hx=>by
  simp only [asc32,Bool.and_eq_true,decide_eq_true_eq] at h
  rcases List.mem_cons.1 hx with rfl | hx
  ·exact h.1.1
  ·have := asc_gt h.2 x hx; omega
theorem asc_filter : ∀ {xs : List Int} {l v : Int} {i : Nat},asc32 l xs = true → xs[i]? = some v → xs.filter (fun x=>decide (x > v)) = xs.drop (i + 1)
 | [],_,_,_,_,h=>by simp at h
 | y :: r,l,v,0,h,hi=>by
  simp only [asc32,Bool.and_eq_true,decide_eq_true_eq] at h
  simp at hi
  subst hi
  simp only [List.filter_cons,Int.lt_irrefl,gt_iff_lt,decide_false,Bool.false_eq_true,if_false,List.drop_succ_cons,List.drop_zero]
  rw [List.filter_eq_self]
  intro x hx
  simpa using asc_gt h.2 x hx
 | y :: r,l,v,i + 1,h,hi=>by
  simp only [asc32,Bool.and_eq_true,decide_eq_true_eq] at h
  simp only [List.getElem?_cons_succ] at hi
  have hlt := asc_gt h.2 v (List.mem_of_getElem? hi)
  simp only [List.filter_cons,List.drop_succ_cons]
  rw [if_neg (by simp; omega)]
  exact asc_filter h.2 hi
theorem idxF_spec {xs : List Int} {v : Int} : (idxF xs v = -1 ∧ v ∉ xs) ∨ ∃ i : Nat,idxF xs v = i ∧ xs[i]? = some v := by
 unfold idxF
 cases h : xs.findIdx? (fun x=>v == x) with
 | none =>
  left
  rw [List.findIdx?_eq_none_iff] at h
  refine ⟨rfl,fun hv=>?_⟩
  have := h v hv
  simp at this
 | some i =>
  right
  rw [List.findIdx?_eq_some_iff_getElem] at h
  obtain ⟨hi,h1,_⟩ := h
  simp at h1
  exact ⟨i,rfl,by rw [List.getElem?_eq_getElem hi,← h1]⟩
theorem learn_eq {e s st ap mk mf mt mn mv me : Int} {xs vs : List Int} {bs : List Byte} (h1 : checkSource ⟨e,s,xs,st,ap⟩ = 0) (h2 : mf = s) (h3 : ¬ me < e) (h4 : ¬ me > 1073741824) :
  learn ⟨e,s,xs,st,ap⟩ ⟨mk,mf,mt,mn,mv,me,vs,bs⟩ = if mk ≠ 9 ∧ mk ≠ 11 ∧ mk ≠ 12 then (⟨e,s,xs,st,ap⟩,[])
   else if me > e then (⟨me,s,[],ap,ap⟩,[])
   else if mk = 9 then (if mv ∈ xs ∧ mv ≥ st then (⟨e,s,xs,mv,ap⟩,[⟨10,0,s,mv,0,e,[],[]⟩]) else (⟨e,s,xs,st,ap⟩,[]))
   else if mk = 11 then (if mv ∈ xs then (⟨e,s,xs.filter fun x=>decide (x > mv),max st mv,mv⟩,[]) else (⟨e,s,xs,st,ap⟩,[]))
   else (⟨e,s,xs,st,ap⟩,[]) := by
 subst h2
 simp only [learn,h1,ne_eq,not_true_eq_false,h3,h4,or_self,if_false,toTarget]
theorem srcL_se {e s st ap : Int} {O : SV} {os : List Int} {r : Src} (ho : Stands Int O os) (hr : r = ⟨e,s,os,st,ap⟩) : ∃ d : D,SE (.agg [.int .i64 e,.int .i64 s,O,.int .i64 st,.int .i64 ap]) (srcSV d r) := by
 subst hr
 obtain ⟨d,h⟩ := ho.se
 exact ⟨d,se_agg (.cons (se_int rfl) (.cons (se_int rfl) (.cons h (.cons (se_int rfl) (.cons (se_int rfl) .nil)))))⟩
section
variable {P : Program} {w : World} {H : HV}
theorem rt_src3 {e s st ap k : Int} {O X : SV} {os : List Int} {ms : List Msg} {r : Src × List Msg × Int} (ho : Stands Int O os) (hx : Stands Msg X ms) (hr : r = (⟨e,s,os,st,ap⟩,ms,k)) :
  (Tree.ret (.tup [.agg [.int .i64 e,.int .i64 s,O,.int .i64 st,.int .i64 ap],X,.int .i64 k])).holds P ⟨w,H⟩ (RetD w H fun ds=>.tup [srcSV (ds 0) r.1,.dat ((ds 1).like r.2.1),.int .i64 r.2.2]) := by
 subst hr
 obtain ⟨d,h⟩ := srcL_se (e := e) (s := s) (st := st) (ap := ap) ho rfl
 obtain ⟨d',h'⟩ := hx.se
 exact ret_se (fun i=>match i with | 0=>d | _=>d') (se_tup (.cons h (.cons h' (.cons (se_int rfl) .nil))))
theorem rt_src2 {e s st ap : Int} {O X : SV} {os : List Int} {ms : List Msg} {r : Src × List Msg} (ho : Stands Int O os) (hx : Stands Msg X ms) (hr : r = (⟨e,s,os,st,ap⟩,ms)) :
  (Tree.ret (.tup [.agg [.int .i64 e,.int .i64 s,O,.int .i64 st,.int .i64 ap],X])).holds P ⟨w,H⟩ (RetD w H fun ds=>.tup [srcSV (ds 0) r.1,.dat ((ds 1).like r.2)]) := by
 subst hr
 obtain ⟨d,h⟩ := srcL_se (e := e) (s := s) (st := st) (ap := ap) ho rfl
 obtain ⟨d',h'⟩ := hx.se
 exact ret_se (fun i=>match i with | 0=>d | _=>d') (se_tup (.cons h (.cons h' .nil)))
end
theorem offer_e {s : Src} {c : Int} (h : checkSource s ≠ 0) : offer s c = (⟨0,0,[],0,0⟩,[],checkSource s) := by unfold offer; rw [if_pos h]; rfl
theorem offer_c {e s st ap n last : Int} {xs : List Int} (h : checkSource ⟨e,s,xs,st,ap⟩ = 0) (hl : lastOf ap xs = last) :
  offer ⟨e,s,xs,st,ap⟩ n = if n ≤ last then (⟨0,0,[],0,0⟩,[],8) else if n > 1073741824 then (⟨0,0,[],0,0⟩,[],2) else if xs.length ≥ 1024 then (⟨0,0,[],0,0⟩,[],6) else (⟨e,s,xs ++ [n],st,ap⟩,[⟨8,0,s,n,0,e,[],[]⟩],0) := by
 unfold offer
 rw [if_neg (by simp [h])]
 simp only [hl]
 rfl
end Sx
end
noncomputable section
open Go Go.Proofs Sx
namespace Sv
theorem ctOOk : Ctrs.Ok Try.prog ctO := by
 intro x hx
 simp only [ctO,List.mem_cons,List.not_mem_nil,or_false] at hx
 rcases hx with rfl | rfl | rfl | rfl
 ·exact ctrOf_ok lawCS1
 ·exact ctrOf_ok lawHas42
 ·exact ctrOf_ok lawIdx32
 ·exact oCtr_ok lawCl1
theorem lawOfr : Law Try.prog 89 ((rdSrc.two rdInt).sp spOffer) := by
 refine law_in _ (by kernel_rfl) fun H w ⟨⟨e,s,d,st,ap⟩,n⟩ hok hp=>?_
 have hd : d.Is Int := hp _ (List.mem_singleton.2 rfl)
 clear hp hok
 have hl := D.Is.length (α := Int) d
 have rd : SRows Int d.rows (d.to Int) := rows_of hd
 apply exec_sound ctOOk 400
 rw [show (rdSrc.two rdInt).canon (⟨e,s,d,st,ap⟩,n) = [.agg [.int .i64 e,.int .i64 s,.dat d,.int .i64 st,.int .i64 ap],.int .i64 n] from rfl,ofr_in]
 show Tree.holds _ _ (RetD w H fun ds=>.tup [srcSV (ds 0) (offer ⟨e,s,d.to Int,st,ap⟩ n).1,.dat ((ds 1).like (offer ⟨e,s,d.to Int,st,ap⟩ n).2.1),.int .i64 (offer ⟨e,s,d.to Int,st,ap⟩ n).2.2]) _
 refine ⟨hd,fun h1=>rt_src3 stands_nils stands_nils (offer_e (show checkSource (SrcD.src ⟨e,s,d,st,ap⟩) ≠ 0 by simpa using h1)),fun h1=>?_⟩
 have h1 : checkSource ⟨e,s,d.to Int,st,ap⟩ = 0 := show checkSource (SrcD.src ⟨e,s,d,st,ap⟩) = 0 by simpa using h1
 have h8 : (d.to Int).length ≤ 1024 := cs_len h1
 have hcast : 0 < d.len → IntKind.i64.wrap ((d.len : Int) - 1) = ((d.len - 1 : Nat) : Int) := fun h=>by rw [wrap64 (by omega) (by omega)]; omega
 have n5 : d.Is Int ∧ d.len ≤ 1048576 := ⟨hd,by omega⟩
 refine ⟨fun h2=>?_,fun h2=>?_⟩
 ·have h2 : 0 < d.len := by have := of_decide_eq_true h2; omega
  rw [hcast h2]
  have hlt : d.len - 1 < (d.to Int).length := by omega
  obtain ⟨c1,c2,c3⟩ := int_at hd hlt
  rw [c3]
  have hx : lastOf ap (d.to Int) = (d.to Int)[d.len - 1] := by
   rw [lastOf_get (a := ap) (l := d.to Int) (by omega)]
   congr 1; omega
  have ho := offer_c (n := n) h1 hx
  refine ⟨c1,c2,fun h3=>rt_src3 stands_nils stands_nils ?_,fun h3=>⟨fun h4=>rt_src3 stands_nils stands_nils ?_,fun h4=>⟨fun h5=>rt_src3 stands_nils stands_nils ?_,fun h5=>⟨n5,fun hs hs1=>⟨⟨rfl,.inr rfl,?_,?_⟩,fun hs2 hs3=>⟨⟨.inr rfl,by simp only [len_slc,List.length_cons,List.length_nil]; omega,by simp only [len_slc,List.length_cons,List.length_nil]; omega⟩,fun hs4=>rt_src3 (stands_rows rfl (rows_app rd (rows_one (ok_int n) rfl))) (stands_rows rfl (msg_row rfl)) ?_⟩⟩⟩⟩⟩⟩
  ·rw [ho,if_pos (of_decide_eq_true h3)]
  all_goals try rw [ho,if_neg (of_decide_eq_false h3)]
  ·rw [if_pos (of_decide_eq_true h4)]
  all_goals try rw [if_neg (of_decide_eq_false h4)]
  ·rw [if_pos (by have := of_decide_eq_true h5; omega)]
  all_goals try rw [if_neg (by have := of_decide_eq_false h5; omega)]
  ·have : d.rows.length = (d.to Int).length := hl
   simp only [len_slc,List.length_cons,List.length_nil]; omega
  ·have : d.rows.length = (d.to Int).length := hl
   simp only [len_slc,List.length_cons,List.length_nil]; omega
  ·rfl
 ·have h2 : d.len = 0 := by have := of_decide_eq_false h2; omega
  have h0 : d.to Int = [] := List.eq_nil_of_length_eq_zero (by omega)
  have ho := offer_c (n := n) h1 (last := ap) (by rw [h0]; rfl)
  refine ⟨fun h3=>rt_src3 stands_nils stands_nils ?_,fun h3=>⟨fun h4=>rt_src3 stands_nils stands_nils ?_,fun h4=>⟨fun h5=>rt_src3 stands_nils stands_nils ?_,fun h5=>⟨n5,fun hs hs1=>⟨⟨rfl,.inr rfl,?_,?_⟩,fun hs2 hs3=>⟨⟨.inr rfl,by simp only [len_slc,List.length_cons,List.length_nil]; omega,by simp only [len_slc,List.length_cons,List.length_nil]; omega⟩,fun hs4=>rt_src3 (stands_rows rfl (rows_app rd (rows_one (ok_int n) rfl))) (stands_rows rfl (msg_row rfl)) ?_⟩⟩⟩⟩⟩⟩
  ·rw [ho,if_pos (of_decide_eq_true h3)]
  all_goals try rw [ho,if_neg (of_decide_eq_false h3)]
  ·rw [if_pos (of_decide_eq_true h4)]
  all_goals try rw [if_neg (of_decide_eq_false h4)]
  ·rw [if_pos (by have := of_decide_eq_true h5; omega)]
  all_goals try rw [if_neg (by have := of_decide_eq_false h5; omega)]
  ·have : d.rows.length = (d.to Int).length := hl
   simp only [len_slc,List.length_cons,List.length_nil]; omega
  ·have : d.rows.length = (d.to Int).length := hl
   simp only [len_slc,List.length_cons,List.length_nil]; omega
  ·rfl
theorem lawLrn : Law Try.prog 80 ((rdSrc.two rdMsg).sp spLearn) := by
 refine law_in _ (by kernel_rfl) fun H w ⟨⟨e,s,d,st,ap⟩,⟨mk,mf,mt,mn,mv,me,mb,ml⟩⟩ hok hp=>?_
 have hd : d.Is Int := hp _ (List.mem_singleton.2 rfl)
 clear hp hok
 have hl := D.Is.length (α := Int) d
 apply goS_sound ctOOk (fun _=>false) [(119,26)] 600
 rw [show (rdSrc.two rdMsg).canon (⟨e,s,d,st,ap⟩,⟨mk,mf,mt,mn,mv,me,mb,ml⟩) = [.agg [.int .i64 e,.int .i64 s,.dat d,.int .i64 st,.int .i64 ap],.agg [.int .i64 mk,.int .i64 mf,.int .i64 mt,.int .i64 mn,.int .i64 mv,.int .i64 me,.dat mb,.dat ml]] from rfl,lrn_in]
 show Tree.holds _ _ (RetD w H fun ds=>.tup [srcSV (ds 0) (learn ⟨e,s,d.to Int,st,ap⟩ ⟨mk,mf,mt,mn,mv,me,mb.to Int,ml.to Byte⟩).1,.dat ((ds 1).like (learn ⟨e,s,d.to Int,st,ap⟩ ⟨mk,mf,mt,mn,mv,me,mb.to Int,ml.to Byte⟩).2)]) _
 have bad : (checkSource ⟨e,s,d.to Int,st,ap⟩ ≠ 0 ∨ mf ≠ s ∨ me < e ∨ me > 1073741824) → learn ⟨e,s,d.to Int,st,ap⟩ ⟨mk,mf,mt,mn,mv,me,mb.to Int,ml.to Byte⟩ = (⟨e,s,d.to Int,st,ap⟩,[]) := fun h=>by
  unfold learn; rw [if_pos h]
 refine ⟨hd,fun h1=>rt_src2 (stands_self hd) stands_nils (bad (.inl (show checkSource (SrcD.src ⟨e,s,d,st,ap⟩) ≠ 0 by simpa using h1))),fun h1=>⟨fun h2=>rt_src2 (stands_self hd) stands_nils (bad (.inr (.inl (by simpa using h2)))),fun h2=>⟨fun h3=>rt_src2 (stands_self hd) stands_nils (bad (.inr (.inr (.inl (of_decide_eq_true h3))))),fun h3=>⟨fun h4=>⟨fun h5=>rt_src2 (stands_self hd) stands_nils (bad (.inr (.inr (.inr (by simp at h5; omega))))),fun h5=>?_⟩,fun h4=>?_⟩⟩⟩⟩
 ·have h1 : checkSource ⟨e,s,d.to Int,st,ap⟩ = 0 := show checkSource (SrcD.src ⟨e,s,d,st,ap⟩) = 0 by simpa using h1
  have h2 : mf = s := by simpa using h2
  have h3 : ¬me < e := of_decide_eq_false h3
  have h5 : ¬me > 1073741824 := by simp at h5; omega
  have h8 : (d.to Int).length ≤ 1024 := cs_len h1
  obtain ⟨_,hasc⟩ := cs_e h1
  rw [learn_eq h1 h2 h3 h5]
  refine holds_need.2 ⟨⟨hd,by omega⟩,holds_all.2 fun hs=>?_⟩
  obtain ⟨x1,x2⟩ := slc_same hd (D.hd (hs 0 0)) (s := 1) rfl
  generalize hxx : D.slc (D.hd (hs 0 0)) 1 (D.rows d) = x at x1 x2 ⊢
  have xl := D.Is.length (α := Int) x
  rw [x2] at xl
  have n1 : x.Is Int ∧ x.len ≤ 1048576 := ⟨x1,by omega⟩
  rw [x2]
  refine ⟨fun k9=>⟨fun h6 _ _=>rt_src2 stands_nils stands_nils ?_,fun h6=>⟨n1,fun c1=>⟨fun c2 hs1=>⟨⟨.inr rfl,by simp only [len_slc,List.length_cons,List.length_nil]; omega,by simp only [len_slc,List.length_cons,List.length_nil]; omega⟩,fun _=>rt_src2 (stands_dat x1 x2) (stands_rows rfl (msg_row rfl)) ?_⟩,fun c2 _=>rt_src2 (stands_dat x1 x2) stands_nils ?_⟩,fun c1 _=>rt_src2 (stands_dat x1 x2) stands_nils ?_⟩⟩,
   fun k9=>⟨fun k11=>⟨fun h6 _ _=>rt_src2 stands_nils stands_nils ?_,fun h6=>⟨n1,fun c1=>?_,fun c1 _=>rt_src2 (stands_dat x1 x2) stands_nils ?_⟩⟩,fun k11=>⟨fun k12=>⟨fun h6 _ _=>rt_src2 stands_nils stands_nils ?_,fun h6 _=>rt_src2 (stands_dat x1 x2) stands_nils ?_⟩,fun k12 _=>rt_src2 (stands_dat x1 x2) stands_nils ?_⟩⟩⟩
  ·rw [if_neg (by simp at k9; omega),if_pos (of_decide_eq_true h6)]
  ·have c1 : mv ∈ d.to Int := by simpa using c1
   rw [if_neg (by simp at k9; omega),if_neg (of_decide_eq_false h6),if_pos (of_decide_eq_true k9),if_pos ⟨c1,of_decide_eq_true c2⟩]
  ·rw [if_neg (by simp at k9; omega),if_neg (of_decide_eq_false h6),if_pos (of_decide_eq_true k9),if_neg (fun h=>of_decide_eq_false c2 h.2)]
  ·have c1 : ¬mv ∈ d.to Int := by simpa using c1
   rw [if_neg (by simp at k9; omega),if_neg (of_decide_eq_false h6),if_pos (of_decide_eq_true k9),if_neg (fun h=>c1 h.1)]
  ·rw [if_neg (by simp at k11; omega),if_pos (of_decide_eq_true h6)]
  ·have k9 := of_decide_eq_false k9
   have k11 := of_decide_eq_true k11
   rw [if_neg (by omega),if_neg (of_decide_eq_false h6),if_neg k9,if_pos k11]
   rcases idxF_spec (xs := d.to Int) (v := mv) with ⟨hi,_⟩ | ⟨i,hi,hix⟩
   ·rw [hi] at c1; exact absurd (of_decide_eq_true c1) (by omega)
   ·have hlt := (List.getElem?_eq_some_iff.1 hix).1
    have hmem : mv ∈ d.to Int := List.mem_of_getElem? hix
    rw [hi,wrap_succ hlt (by omega),if_pos hmem,Int.toNat_natCast]
    refine ⟨⟨by omega,by omega,x1.fits⟩,?_⟩
    refine viewOut_to 2 0 2 (x.sz = 1 ∧ (i + 1) + (x.len - (i + 1)) ≤ x.len) (lrA e s st ap mv x (x.sub (i + 1) (i + 1 + (x.len - (i + 1))))) (by kernel_rfl) ⟨by rw [← hxx]; rfl,by omega⟩ ?_
    apply exec_sound ctOOk 300
    rw [lrA_go]
    obtain ⟨y1,y2⟩ := x1.sub (i + 1) (i + 1 + (x.len - (i + 1)))
    refine fun _=>rt_src2 (stands_dat y1 y2) stands_nils ?_
    rw [x2,asc_filter hasc hix,Nat.add_sub_cancel_left,List.take_of_length_le (by rw [List.length_drop]; omega)]
    congr 2
    rw [Int.max_def]
    split <;> split <;> omega
  ·have k9 := of_decide_eq_false k9
   have k11 := of_decide_eq_true k11
   rw [if_neg (by omega),if_neg (of_decide_eq_false h6),if_neg k9,if_pos k11]
   rcases idxF_spec (xs := d.to Int) (v := mv) with ⟨hi,hm⟩ | ⟨i,hi,hix⟩
   ·rw [if_neg hm]
   ·rw [hi] at c1; exact absurd (of_decide_eq_false c1) (by omega)
  ·rw [if_neg (by simp at k12; omega),if_pos (of_decide_eq_true h6)]
  ·have k9 := of_decide_eq_false k9
   have k11 := of_decide_eq_false k11
   rw [if_neg (by simp at k12; omega),if_neg (of_decide_eq_false h6),if_neg k9,if_neg k11]
  ·have k9 := of_decide_eq_false k9
   have k11 := of_decide_eq_false k11
   have k12 := of_decide_eq_false k12
   rw [if_pos ⟨k9,k11,k12⟩]
 ·have h1 : checkSource ⟨e,s,d.to Int,st,ap⟩ = 0 := show checkSource (SrcD.src ⟨e,s,d,st,ap⟩) = 0 by simpa using h1
  obtain ⟨h0,_⟩ := cs_e h1
  have := of_decide_eq_false h3
  have := of_decide_eq_false h4
  omega
section
variable (e s st ap j k : Int)
theorem msg_in : exec Try.prog [] 300 (entry Try.prog 116 [.agg [.int .i64 e,.int .i64 s,.int .i64 st,.int .i64 ap],.int .i64 j,.int .i64 k]) =
 Tree.all fun hs =>
 .ret
 (.dat
 (D.slc (D.hd (hs 0 0)) 8
 [[D.int .i64 j,D.int .i64 s,D.int .i64 0,D.int .i64 0,D.int .i64 k,
 D.int .i64 e,D.slc none 0 [],D.slc none 0 []]])) := by kernel_rfl
theorem offd_in : exec Try.prog [] 300 (entry Try.prog 117 [.agg [.int .i64 e,.int .i64 s,.int .i64 st,.int .i64 ap]]) =
 Tree.all fun hs =>
 .ret
 (.dat
 (D.slc (D.hd (hs 0 0)) 8
 [[D.int .i64 9,D.int .i64 s,D.int .i64 0,D.int .i64 0,D.int .i64 st,
 D.int .i64 e,D.slc none 0 [],D.slc none 0 []]])) := by kernel_rfl
theorem cmtd_in : exec Try.prog [] 300 (entry Try.prog 115 [.agg [.int .i64 e,.int .i64 s,.int .i64 st,.int .i64 ap]]) =
 Tree.all fun hs =>
 .ret
 (.dat
 (D.slc (D.hd (hs 0 0)) 8
 [[D.int .i64 11,D.int .i64 s,D.int .i64 0,D.int .i64 0,D.int .i64 ap,
 D.int .i64 e,D.slc none 0 [],D.slc none 0 []]])) := by kernel_rfl
end
end Sv
end
noncomputable section
open Go Go.Proofs Sx
namespace Sx
theorem ret_oneM {P : Program} {w : World} {H : HV} {X : SV} {m : Msg} {r : List Msg} (hx : Stands Msg X [m]) (hr : r = [m]) : (Tree.ret X).holds P ⟨w,H⟩ (RetD w H fun ds=>.dat ((ds 0).like r)) := by
 subst hr
 obtain ⟨d,h⟩ := hx.se
 exact ret_se (fun _=>d) h
theorem rt_tgt3 {P : Program} {w : World} {H : HV} {e s st ap k : Int} {X : SV} {ms : List Msg} {r : Tgt × List Msg × Int} (hx : Stands Msg X ms) (hr : r = (⟨e,s,st,ap⟩,ms,k)) :
  (Tree.ret (.tup [.agg [.int .i64 e,.int .i64 s,.int .i64 st,.int .i64 ap],X,.int .i64 k])).holds P ⟨w,H⟩ (RetD w H fun ds=>.tup [tgtSV r.1,.dat ((ds 0).like r.2.1),.int .i64 r.2.2]) := by
 subst hr
 obtain ⟨d,h⟩ := hx.se
 exact ret_se (fun _=>d) (se_tup (.cons (se_agg (.cons (se_int rfl) (.cons (se_int rfl) (.cons (se_int rfl) (.cons (se_int rfl) .nil))))) (.cons h (.cons (se_int rfl) .nil))))
theorem rt_tgt2 {P : Program} {w : World} {H : HV} {e s st ap : Int} {X : SV} {ms : List Msg} {r : Tgt × List Msg} (hx : Stands Msg X ms) (hr : r = (⟨e,s,st,ap⟩,ms)) :
  (Tree.ret (.tup [.agg [.int .i64 e,.int .i64 s,.int .i64 st,.int .i64 ap],X])).holds P ⟨w,H⟩ (RetD w H fun ds=>.tup [tgtSV r.1,.dat ((ds 0).like r.2)]) := by
 subst hr
 obtain ⟨d,h⟩ := hx.se
 exact ret_se (fun _=>d) (se_tup (.cons (se_agg (.cons (se_int rfl) (.cons (se_int rfl) (.cons (se_int rfl) (.cons (se_int rfl) .nil))))) (.cons h .nil)))
end Sx
namespace Sv
theorem lawMsgT : Law Try.prog 116 ((rdTgt.three rdInt rdInt).sp spToSource) := by
 refine law_in _ (by kernel_rfl) fun H w ⟨⟨e,s,st,ap⟩,j,k⟩ hok hp=>?_
 apply exec_sound (noCtr _) 300
 rw [show (rdTgt.three rdInt rdInt).canon (⟨e,s,st,ap⟩,j,k) = [.agg [.int .i64 e,.int .i64 s,.int .i64 st,.int .i64 ap],.int .i64 j,.int .i64 k] from rfl,msg_in]
 exact fun hs=>ret_oneM (stands_rows rfl (msg_row rfl)) rfl
theorem lawOffT : Law Try.prog 117 (rdTgt.one.sp spOffered) := by
 refine law_in _ (by kernel_rfl) fun H w ⟨e,s,st,ap⟩ hok hp=>?_
 apply exec_sound (noCtr _) 300
 rw [show rdTgt.one.canon ⟨e,s,st,ap⟩ = [.agg [.int .i64 e,.int .i64 s,.int .i64 st,.int .i64 ap]] from rfl,offd_in]
 exact fun hs=>ret_oneM (stands_rows rfl (msg_row rfl)) rfl
theorem lawCmtT : Law Try.prog 115 (rdTgt.one.sp spCommitted) := by
 refine law_in _ (by kernel_rfl) fun H w ⟨e,s,st,ap⟩ hok hp=>?_
 apply exec_sound (noCtr _) 300
 rw [show rdTgt.one.canon ⟨e,s,st,ap⟩ = [.agg [.int .i64 e,.int .i64 s,.int .i64 st,.int .i64 ap]] from rfl,cmtd_in]
 exact fun hs=>ret_oneM (stands_rows rfl (msg_row rfl)) rfl
end Sv
end
noncomputable section
open Go Go.Proofs Sx
namespace Sv
def r1L (P : Program) (e s st ap : Int) (d o ms : D) (j : Int) : Conf := Conf.mk (SFrm.mk 71 none none
 [Item.inLoop (cAt P 71 [1,1,1,1,0,1,0,0]),Item.inBlock 0,Item.code (cAt P 71 [1,1,1,1,1])]
 (mkJ 0 [(1,.ptr 0 0),(3,.ptr 1 0),(21,.dat d),(22,.int .i64 d.len),(23,.int .i64 j)] 0 39))
 [] [(0,.cells 34 [.int .i64 e,.int .i64 s,.dat d,.int .i64 st,.int .i64 ap]),(1,.cells 167 [.int .i64 e,.int .i64 s,.vec 2,.int .i64 st,.int .i64 ap,.vec 3]),(2,.arr 3 o),(3,.arr 72 ms)]
section
variable (e s st ap n j : Int) (d o ms : D)
theorem rsd2_in : exec Try.prog ctO 400 (entry Try.prog 71 [.agg [.int .i64 e,.int .i64 s,.dat d,.int .i64 st,.int .i64 ap]]) =
 Tree.need (D.Is Int d)
 (.br (checkSource (SrcD.src (SrcD.mk e s d st ap)) != 0) (.ret .nils)
 (.need (D.Is Int d ∧ D.len d ≤ 1048576)
 (.all fun hs =>
 .br (decide (st > ap))
 (.all fun hs_1 =>
 .need
 (D.Fits
 (D.slc (D.hd (hs_1 18 0)) 8
 [[D.int .i64 10,D.int .i64 0,D.int .i64 s,D.int .i64 st,
 D.int .i64 0,D.int .i64 e,D.slc none 0 [],D.slc none 0 []]])
 8 ∧
 D.len
 (D.slc (D.hd (hs_1 18 0)) 8
 [[D.int .i64 10,D.int .i64 0,D.int .i64 s,D.int .i64 st,
 D.int .i64 0,D.int .i64 e,D.slc none 0 [],D.slc none 0 []]]) *
 96 ≤
 140737488355328 ∧
 D.len
 (D.slc (D.hd (hs_1 18 0)) 8
 [[D.int .i64 10,D.int .i64 0,D.int .i64 s,D.int .i64 st,
 D.int .i64 0,D.int .i64 e,D.slc none 0 [],D.slc none 0 []]]) ≤
 9223372036854775807)
 (.leaf
 (Conf.mk
 (SFrm.mk 71 none none
 [Item.inLoop (cA 71 [1,1,1,1,0,1,0,0]),Item.inBlock 0,
 Item.code (cA 71 [1,1,1,1,1])]
 (mkJ 0
 [(1,.ptr 0 0),(3,.ptr 1 0),(21,.dat d),(22,.int .i64 (↑(D.len d) : Int)),
 (23,.int .i64 0)]
 0 39))
 []
 [(0,
 OBlk.cells 34
 [.int .i64 e,.int .i64 s,.dat d,.int .i64 st,
 .int .i64 ap]),
 (1,
 OBlk.cells 167
 [.int .i64 e,.int .i64 s,.vec 2,.int .i64 st,
 .int .i64 ap,.vec 3]),
 (2,OBlk.arr 3 (D.slc (D.hd (hs 0 0)) 1 (D.rows d))),
 (3,
 OBlk.arr 72
 (D.slc (D.hd (hs_1 19 0)) 8
 (D.rows
 (D.slc (D.hd (hs_1 18 0)) 8
 [[D.int .i64 10,D.int .i64 0,D.int .i64 s,D.int .i64 st,
 D.int .i64 0,D.int .i64 e,D.slc none 0 [],D.slc none 0 []]]))))])))
 (.leaf
 (Conf.mk
 (SFrm.mk 71 none none
 [Item.inLoop (cA 71 [1,1,1,1,0,1,0,0]),Item.inBlock 0,
 Item.code (cA 71 [1,1,1,1,1])]
 (mkJ 0
 [(1,.ptr 0 0),(3,.ptr 1 0),(21,.dat d),(22,.int .i64 (↑(D.len d) : Int)),
 (23,.int .i64 0)]
 0 39))
 []
 [(0,
 OBlk.cells 34
 [.int .i64 e,.int .i64 s,.dat d,.int .i64 st,
 .int .i64 ap]),
 (1,
 OBlk.cells 167
 [.int .i64 e,.int .i64 s,.vec 2,.int .i64 st,.int .i64 ap,
 .nils]),
 (2,OBlk.arr 3 (D.slc (D.hd (hs 0 0)) 1 (D.rows d)))]))))) := by kernel_rfl
theorem rsd2_go : exec Try.prog ctO 400 (unroll (r1L Try.prog e s st ap d o ms j)) =
 Tree.br (decide (j < (↑(D.len d) : Int)))
 (.need (0 ≤ j ∧ j < (↑(D.len d) : Int) ∧ D.sz d = 1)
 (.need (D.HasCell d (Int.toNat j) 0 (FT.int .i64))
 (.br (decide (D.getInt d (Int.toNat j) 0 > st))
 (.all fun hs =>
 .need
 (D.sz ms = 8 ∧
 D.Fits
 (D.slc (D.hd (hs 18 0)) 8
 [[D.int .i64 8,D.int .i64 0,D.int .i64 s,
 D.int .i64 (D.getInt d (Int.toNat j) 0),D.int .i64 0,D.int .i64 e,
 D.slc none 0 [],D.slc none 0 []]])
 8 ∧
 (D.len ms +
 D.len
 (D.slc (D.hd (hs 18 0)) 8
 [[D.int .i64 8,D.int .i64 0,D.int .i64 s,
 D.int .i64 (D.getInt d (Int.toNat j) 0),D.int .i64 0,
 D.int .i64 e,D.slc none 0 [],D.slc none 0 []]])) *
 96 ≤
 140737488355328 ∧
 D.len ms +
 D.len
 (D.slc (D.hd (hs 18 0)) 8
 [[D.int .i64 8,D.int .i64 0,D.int .i64 s,
 D.int .i64 (D.getInt d (Int.toNat j) 0),D.int .i64 0,D.int .i64 e,
 D.slc none 0 [],D.slc none 0 []]]) ≤
 9223372036854775807)
 (.leaf
 (Conf.mk
 (SFrm.mk 71 none none
 [Item.inLoop (cA 71 [1,1,1,1,0,1,0,0]),Item.inBlock 0,
 Item.code (cA 71 [1,1,1,1,1])]
 (mkJ 0
 [(1,.ptr 0 0),(3,.ptr 1 0),(21,.dat d),(22,.int .i64 (↑(D.len d) : Int)),
 (23,.int .i64 (IntKind.wrap .i64 (j + 1)))]
 0 39))
 []
 [(0,
 OBlk.cells 34
 [.int .i64 e,.int .i64 s,.dat d,.int .i64 st,
 .int .i64 ap]),
 (1,
 OBlk.cells 167
 [.int .i64 e,.int .i64 s,.vec 2,.int .i64 st,
 .int .i64 ap,.vec 3]),
 (2,OBlk.arr 3 o),
 (3,
 OBlk.arr 72
 (D.slc (D.hd (hs 19 0)) 8
 (List.append (D.rows ms)
 (D.rows
 (D.slc (D.hd (hs 18 0)) 8
 [[D.int .i64 8,D.int .i64 0,D.int .i64 s,
 D.int .i64 (D.getInt d (Int.toNat j) 0),D.int .i64 0,
 D.int .i64 e,D.slc none 0 [],D.slc none 0 []]])))))])))
 (.leaf
 (Conf.mk
 (SFrm.mk 71 none none
 [Item.inLoop (cA 71 [1,1,1,1,0,1,0,0]),Item.inBlock 0,
 Item.code (cA 71 [1,1,1,1,1])]
 (mkJ 0
 [(1,.ptr 0 0),(3,.ptr 1 0),(21,.dat d),(22,.int .i64 (↑(D.len d) : Int)),
 (23,.int .i64 (IntKind.wrap .i64 (j + 1)))]
 0 39))
 []
 [(0,
 OBlk.cells 34
 [.int .i64 e,.int .i64 s,.dat d,.int .i64 st,.int .i64 ap]),
 (1,
 OBlk.cells 167
 [.int .i64 e,.int .i64 s,.vec 2,.int .i64 st,.int .i64 ap,
 .vec 3]),
 (2,OBlk.arr 3 o),(3,OBlk.arr 72 ms)])))))
 (.ret (.dat ms)) := by kernel_rfl
end
theorem resend_eq {e s st ap : Int} {xs : List Int} (h : checkSource ⟨e,s,xs,st,ap⟩ = 0) :
  resend ⟨e,s,xs,st,ap⟩ = (if st > ap then [⟨10,0,s,st,0,e,[],[]⟩] else []) ++ (xs.filter fun x=>decide (x > st)).map fun x=>⟨8,0,s,x,0,e,[],[]⟩ := by
 simp only [resend,h]
 rfl
theorem ret_ms {P : Program} {w : World} {H : HV} {X : SV} {l r : List Msg} (hx : Stands Msg X l) (hr : r = l) : (Tree.ret X).holds P ⟨w,H⟩ (RetD w H fun ds=>.dat ((ds 0).like r)) := by
 subst hr
 obtain ⟨d,h⟩ := hx.se
 exact ret_se (fun _=>d) h
theorem r1_loop {H : HV} {d o : D} (hd : d.Is Int) (e s st ap : Int) (w : World) (pre : List Msg) (hpre : pre.length ≤ 1) (h2 : (d.to Int).length ≤ 1024) (ms0 : D) (h0 : ms0.Is Msg) (h0s : ms0.sz = 8) (h0' : ms0.to Msg = pre) {r : List Msg} (hr : r = pre ++ ((d.to Int).filter fun x=>decide (x > st)).map fun x=>(⟨8,0,s,x,0,e,[],[]⟩ : Msg)) :
  Runs Try.prog ⟨w,H⟩ (r1L Try.prog e s st ap d o ms0 0) (RetD w H fun ds=>.dat ((ds 0).like r)) := by
 have hl := D.Is.length (α := Int) d
 refine runs_loop (fun p : D × Nat=>r1L Try.prog e s st ap d o p.1 p.2)
  (fun p=>p.2 ≤ (d.to Int).length ∧ p.1.Is Msg ∧ p.1.sz = 8 ∧ p.1.to Msg = pre ++ (((d.to Int).take p.2).filter fun x=>decide (x > st)).map fun x=>(⟨8,0,s,x,0,e,[],[]⟩ : Msg))
  (fun p=>(d.to Int).length - p.2) (fun _=>rfl) ?_ (ms0,0) ⟨Nat.zero_le _,h0,h0s,by simp [h0']⟩
 intro ⟨ms,j⟩ ⟨hj,hm,hs,hto⟩ ih
 simp only at hj hm hs hto ih
 apply exec_sound ctOOk 400
 rw [rsd2_go]
 have hml := D.Is.length (α := Msg) ms
 rw [hto] at hml
 simp only [List.length_append,List.length_map] at hml
 have hfl : (((d.to Int).take j).filter fun x=>decide (x > st)).length ≤ j := by
  refine Nat.le_trans (List.length_filter_le _ _) ?_
  rw [List.length_take]; omega
 refine ⟨fun hc=>?_,fun hc=>?_⟩
 ·have hc : j < (d.to Int).length := by have := of_decide_eq_true hc; omega
  obtain ⟨c1,c2,c3⟩ := int_at hd hc
  have htk : (d.to Int).take (j + 1) = (d.to Int).take j ++ [(d.to Int)[j]] := List.take_succ_eq_append_getElem hc
  rw [c3]
  refine ⟨c1,c2,fun hx hs'=>⟨⟨hs,.inr rfl,by simp only [len_slc,List.length_cons,List.length_nil]; omega,by simp only [len_slc,List.length_cons,List.length_nil]; omega⟩,?_⟩,fun hx=>?_⟩
  ·obtain ⟨i1,i2⟩ := is_of (h := D.hd (hs' 19 0)) (s := 8) rfl (rows_app (rows_of hm) (msg_row (m := ⟨8,0,s,(d.to Int)[j],0,e,[],[]⟩) rfl))
   have := ih (_,j + 1) ⟨hc,i1,rfl,i2.trans (by rw [hto,htk,List.filter_append,List.filter_cons,if_pos hx,List.map_append,List.append_assoc]; rfl)⟩ (by simp only; omega)
   simp only at this
   rw [← wrap_succ hc (by omega)] at this
   exact this
  ·have := ih (ms,j + 1) ⟨hc,hm,hs,by rw [hto,htk,List.filter_append,List.filter_cons,if_neg (by rw [hx]; decide)]; simp⟩ (by simp only; omega)
   simp only at this
   rw [← wrap_succ hc (by omega)] at this
   exact this
 ·have : j = (d.to Int).length := by have := of_decide_eq_false hc; omega
  subst this
  rw [List.take_length] at hto
  exact ret_ms (stands_dat hm hto) hr
theorem lawRsd : Law Try.prog 71 (rdSrc.one.sp spResend) := by
 refine law_in _ (by kernel_rfl) fun H w ⟨e,s,d,st,ap⟩ hok hp=>?_
 have hd : d.Is Int := hp _ (List.mem_singleton.2 rfl)
 clear hp hok
 have hl := D.Is.length (α := Int) d
 apply exec_sound ctOOk 400
 rw [show rdSrc.one.canon ⟨e,s,d,st,ap⟩ = [.agg [.int .i64 e,.int .i64 s,.dat d,.int .i64 st,.int .i64 ap]] from rfl,rsd2_in]
 show Tree.holds _ _ (RetD w H fun ds=>.dat ((ds 0).like (resend ⟨e,s,d.to Int,st,ap⟩))) _
 refine ⟨hd,fun h1=>ret_ms stands_nils ?_,fun h1=>?_⟩
 ·have h1 : checkSource ⟨e,s,d.to Int,st,ap⟩ ≠ 0 := show checkSource (SrcD.src ⟨e,s,d,st,ap⟩) ≠ 0 by simpa using h1
  unfold resend; rw [if_pos h1]
 have h1 : checkSource ⟨e,s,d.to Int,st,ap⟩ = 0 := show checkSource (SrcD.src ⟨e,s,d,st,ap⟩) = 0 by simpa using h1
 have h8 : (d.to Int).length ≤ 1024 := cs_len h1
 rw [resend_eq h1]
 have one : ∀ h : Hd,(D.slc h 8 [[D.int IntKind.i64 10,D.int IntKind.i64 0,D.int IntKind.i64 s,D.int IntKind.i64 st,D.int IntKind.i64 0,D.int IntKind.i64 e,D.slc none 0 [],D.slc none 0 []]]).Is Msg ∧
  (D.slc h 8 [[D.int IntKind.i64 10,D.int IntKind.i64 0,D.int IntKind.i64 s,D.int IntKind.i64 st,D.int IntKind.i64 0,D.int IntKind.i64 e,D.slc none 0 [],D.slc none 0 []]]).to Msg = [⟨10,0,s,st,0,e,[],[]⟩] := fun h=>is_of rfl (msg_row rfl)
 refine ⟨⟨hd,by omega⟩,fun hs=>⟨fun hst hs1=>⟨⟨.inr rfl,by simp only [len_slc,List.length_cons,List.length_nil]; omega,by simp only [len_slc,List.length_cons,List.length_nil]; omega⟩,?_⟩,fun hst=>?_⟩⟩
 ·exact r1_loop hd e s st ap w [⟨10,0,s,st,0,e,[],[]⟩] (by simp) h8 _ (one _).1 rfl (one _).2 (by rw [if_pos (of_decide_eq_true hst)])
 ·exact vecIn_to 9 72 8 (some 1) 5 (r1L Try.prog e s st ap d (.slc (D.hd (hs 0 0)) 1 (D.rows d)) (.slc none 8 []) 0) (by kernel_rfl) (r1_loop hd e s st ap w [] (by simp) h8 _ (is_nil _ _) rfl rfl (by rw [if_neg (of_decide_eq_false hst)]))
def ctTg : Ctrs := [(56,ctrOf (rdTgt.one.sp spCT)),(57,ctrOf (rdSrc.one.sp spCS)),(116,ctrOf ((rdTgt.three rdInt rdInt).sp spToSource)),(117,ctrOf (rdTgt.one.sp spOffered)),(115,ctrOf (rdTgt.one.sp spCommitted))]
section
variable (e s st ap n mk mf mt mn mv me : Int) (d ml mb : D)
theorem sto_in : exec Try.prog ctTg 400 (entry Try.prog 81 [.agg [.int .i64 e,.int .i64 s,.int .i64 st,.int .i64 ap],.int .i64 n]) =
 Tree.br (checkTarget (Tgt.mk e s st ap) != 0)
 (.ret
 (SV.tup
 [.agg [.int .i64 0,.int .i64 0,.int .i64 0,.int .i64 0],.nils,
 .int .i64 (checkTarget (Tgt.mk e s st ap))]))
 (.br (decide (n ≤ st))
 (.ret
 (SV.tup
 [.agg [.int .i64 0,.int .i64 0,.int .i64 0,.int .i64 0],.nils,
 .int .i64 8]))
 (.br (decide (n > 1073741824))
 (.ret
 (SV.tup
 [.agg [.int .i64 0,.int .i64 0,.int .i64 0,.int .i64 0],.nils,
 .int .i64 2]))
 (.all fun hs =>
 .ret
 (SV.tup
 [.agg [.int .i64 e,.int .i64 s,.int .i64 n,.int .i64 ap],
 .dat (D.like (hs 3 0) [toSource (Tgt.mk e s n ap) 9 n]),.int .i64 0])))) := by kernel_rfl
theorem cap1_in : exec Try.prog ctTg 400 (entry Try.prog 76 [.agg [.int .i64 e,.int .i64 s,.int .i64 st,.int .i64 ap],.int .i64 n]) =
 Tree.br (checkTarget (Tgt.mk e s st ap) != 0)
 (.ret
 (SV.tup
 [.agg [.int .i64 0,.int .i64 0,.int .i64 0,.int .i64 0],.nils,
 .int .i64 (checkTarget (Tgt.mk e s st ap))]))
 (.br (decide (n ≤ ap))
 (.ret
 (SV.tup
 [.agg [.int .i64 0,.int .i64 0,.int .i64 0,.int .i64 0],.nils,
 .int .i64 8]))
 (.br (decide (n > st))
 (.ret
 (SV.tup
 [.agg [.int .i64 0,.int .i64 0,.int .i64 0,.int .i64 0],.nils,
 .int .i64 15]))
 (.all fun hs =>
 .ret
 (SV.tup
 [.agg [.int .i64 e,.int .i64 s,.int .i64 st,.int .i64 n],
 .dat (D.like (hs 3 0) [toSource (Tgt.mk e s st n) 11 n]),.int .i64 0])))) := by kernel_rfl
theorem ans_in : 
 let z3 : List SV := [.int .i64 e,.int .i64 s,.int .i64 st,.int .i64 ap]
 let z1 : Tree := (.br (decide (me < e)) (.all fun hs=>.ret (SV.tup [.agg z3,.dat (D.like (hs 3 0) [toSource (Tgt.mk e s st ap) 12 0])])) (.br (decide (me > e)) (.all fun hs=>.br (decide (mk = 8)) (.need (decide (mk = 8) = true) (.ret (SV.tup [.agg [.int .i64 me,.int .i64 s,.int .i64 ap,.int .i64 ap],.dat (D.like (hs 12 0) [toSource (Tgt.mk me s ap ap) 9 ap])]))) (.br (decide (mk = 10)) (.need (decide (mk = 8) = false) (.need (decide (mk = 10) = true) (.ret (SV.tup [.agg [.int .i64 me,.int .i64 s,.int .i64 ap,.int .i64 ap],.dat (D.like (hs 12 0) [toSource (Tgt.mk me s ap ap) 11 ap])])))) Tree.stuck)) (.all fun hs=>.br (decide (mk = 8)) (.need (decide (mk = 8) = true) (.ret (SV.tup [.agg z3,.dat (D.like (hs 12 0) [toSource (Tgt.mk e s st ap) 9 st])]))) (.br (decide (mk = 10)) (.need (decide (mk = 8) = false) (.need (decide (mk = 10) = true) (.ret (SV.tup [.agg z3,.dat (D.like (hs 12 0) [toSource (Tgt.mk e s st ap) 11 ap])])))) Tree.stuck))))
 let z2 : Tree := (.ret (SV.tup [.agg z3,.nils]))
 exec Try.prog ctTg 400 (entry Try.prog 77 [.agg [.int .i64 e,.int .i64 s,.int .i64 st,.int .i64 ap],.agg [.int .i64 mk,.int .i64 mf,.int .i64 mt,.int .i64 mn,.int .i64 mv,.int .i64 me,.dat ml,.dat mb]]) =
 Tree.br (checkTarget (Tgt.mk e s st ap) != 0) z2 (.br (mt != s) z2 (.br (decide (me ≥ 0)) (.br (!decide (me ≤ 1073741824)) z2 (.br (mk != 8) (.br (mk != 10) z2 z1) z1)) z2)) := by
 intros; kernel_rfl
end
theorem ctTgOk : Ctrs.Ok Try.prog ctTg := by
 intro x hx
 simp only [ctTg,List.mem_cons,List.not_mem_nil,or_false] at hx
 rcases hx with rfl | rfl | rfl | rfl | rfl
 ·exact ctrOf_ok lawCT1
 ·exact ctrOf_ok lawCS1
 ·exact ctrOf_ok lawMsgT
 ·exact ctrOf_ok lawOffT
 ·exact ctrOf_ok lawCmtT
theorem lawSto : Law Try.prog 81 ((rdTgt.two rdInt).sp (spStore Sx.store)) := by
 refine law_in _ (by kernel_rfl) fun H w ⟨⟨e,s,st,ap⟩,n⟩ hok hp=>?_
 clear hp hok
 apply exec_sound ctTgOk 400
 rw [show (rdTgt.two rdInt).canon (⟨e,s,st,ap⟩,n) = [.agg [.int .i64 e,.int .i64 s,.int .i64 st,.int .i64 ap],.int .i64 n] from rfl,sto_in]
 refine ⟨fun h1=>rt_tgt3 stands_nils ?_,fun h1=>⟨fun h2=>rt_tgt3 stands_nils ?_,fun h2=>⟨fun h3=>rt_tgt3 stands_nils ?_,fun h3 hs=>rt_tgt3 stands_like ?_⟩⟩⟩
 all_goals (simp only [bne_iff_ne,ne_eq,bne_eq_false_iff_eq,decide_eq_true_eq,decide_eq_false_iff_not] at *; simp [Sx.store,zTgt,toSource, *])
theorem lawTAp : Law Try.prog 76 ((rdTgt.two rdInt).sp (spStore applyT)) := by
 refine law_in _ (by kernel_rfl) fun H w ⟨⟨e,s,st,ap⟩,n⟩ hok hp=>?_
 clear hp hok
 apply exec_sound ctTgOk 400
 rw [show (rdTgt.two rdInt).canon (⟨e,s,st,ap⟩,n) = [.agg [.int .i64 e,.int .i64 s,.int .i64 st,.int .i64 ap],.int .i64 n] from rfl,cap1_in]
 refine ⟨fun h1=>rt_tgt3 stands_nils ?_,fun h1=>⟨fun h2=>rt_tgt3 stands_nils ?_,fun h2=>⟨fun h3=>rt_tgt3 stands_nils ?_,fun h3 hs=>rt_tgt3 stands_like ?_⟩⟩⟩
 all_goals (simp only [bne_iff_ne,ne_eq,bne_eq_false_iff_eq,decide_eq_true_eq,decide_eq_false_iff_not] at *; simp [applyT,zTgt,toSource, *])
theorem lawAns : Law Try.prog 77 ((rdTgt.two rdMsg).sp spAnswer) := by
 refine law_in _ (by kernel_rfl) fun H w ⟨⟨e,s,st,ap⟩,⟨mk,mf,mt,mn,mv,me,ml,mb⟩⟩ hok hp=>?_
 clear hp hok
 apply exec_sound ctTgOk 400
 rw [show (rdTgt.two rdMsg).canon (⟨e,s,st,ap⟩,⟨mk,mf,mt,mn,mv,me,ml,mb⟩) = [.agg [.int .i64 e,.int .i64 s,.int .i64 st,.int .i64 ap],.agg [.int .i64 mk,.int .i64 mf,.int .i64 mt,.int .i64 mn,.int .i64 mv,.int .i64 me,.dat ml,.dat mb]] from rfl,ans_in]
 simp only [MsgD.msg]
 repeat' first
  | refine ⟨fun hc=>?_,fun hc=>?_⟩
  | refine ⟨by assumption,?_⟩
  | refine fun (hs : Nat → Nat → D)=>?_
  | fail
 all_goals simp only [bne_iff_ne,ne_eq,bne_eq_false_iff_eq,decide_eq_true_eq,decide_eq_false_iff_not,gt_iff_lt,ge_iff_le,Bool.not_eq_true',Bool.not_eq_false'] at *
 all_goals first
  | (exfalso; omega)
  | (refine rt_tgt2 stands_nils ?_; simp [answer,okTime, *]; done)
  | (refine rt_tgt2 stands_like ?_; simp [answer,okTime,toSource, *]; done)
  | fail
end Sv
end
noncomputable section
namespace Sx
open Go RowKit
inductive MidK where
 | copy
 | append
 | store
 | build
deriving DecidableEq
def opMid (o : Op) (k : MidK) : Bool :=
 match k with
 | .copy=>match o with | .call cl=>(match cl.callee with | .builtin .copy=>true | _=>false) | _=>false
 | .append=>match o with | .call cl=>(match cl.callee with | .builtin .append=>true | _=>false) | _=>false
 | .store=>match o with | .store ..=>true | _=>false
 | .build=>match o with | .buildSlice ..=>true | _=>false
def restsMid (M : List (FuncId × MidK)) (c : Conf) : Bool :=
 match c.top.ri with
 | some (ops,i :: _)=>match ops[i]? with
  | some o=>M.any fun x=>x.1 == c.top.fn && opMid o.op x.2
  | none=>false
 | _=>false
def execM (P : Program) (cs : Ctrs) (S : List (FuncId × Nat)) (M : List (FuncId × MidK)) (n : Nat) : Conf → Tree :=
 Nat.rec (motive := fun _=>Conf → Tree) (fun _=>.stuck) (fun _ ih c=>match restsMid M c with
  | true=>leafR c
  | false=>match restsAt S c with
   | true=>restC P c
   | false=>stepC P cs (fun _=>false) ih c) n
def goM (P : Program) (cs : Ctrs) (S : List (FuncId × Nat)) (M : List (FuncId × MidK)) (n : Nat) (c : Conf) : Tree := stepC P cs (fun _=>false) (execM P cs S M n) c
section
variable {P : Program} {C : Ctx} {R : Value → World → Prop} {cs : Ctrs}
theorem execM_sound (hcs : cs.Ok P) (S : List (FuncId × Nat)) (M : List (FuncId × MidK)) : ∀ (n : Nat) (c : Conf),(execM P cs S M n c).holds P C R → Runs P C c R
 | 0,_,h=>h.elim
 | n + 1,c,h=>by
  have e : execM P cs S M (n + 1) c = match restsMid M c with
   | true=>leafR c
   | false=>match restsAt S c with
    | true=>restC P c
    | false=>stepC P cs (fun _=>false) (execM P cs S M n) c := rfl
  rw [e] at h
  cases hr : restsMid M c with
  | true=>rw [hr,leafR_eq] at h; exact h
  | false =>
   rw [hr] at h
   simp only at h
   cases hs : restsAt S c with
   | true=>rw [hs] at h; exact fgtR_sound (headR_sound h)
   | false=>rw [hs] at h; exact step_sound (U := fun _=>false) hcs (fun c h=>execM_sound hcs S M n c h) c h
theorem goM_sound (hcs : cs.Ok P) (S : List (FuncId × Nat)) (M : List (FuncId × MidK)) (n : Nat) (c : Conf) (h : (goM P cs S M n c).holds P C R) : Runs P C c R :=
 step_sound (U := fun _=>false) hcs (fun c h=>execM_sound hcs S M n c h) c h
end
end Sx
end
noncomputable section
namespace Sx
open Go RowKit
section
variable {P : Program}
def At (P : Program) (c : Conf) (H : HV) (w : World) (R : Value → World → Prop) : Prop :=
 ∀ E,c.Ok H → InMem H w → StkRun P ctxPlain (c.top.den E) (c.rest.map (SFrm.den E)) w R
theorem at_of_runs {c : Conf} {H : HV} {w : World} {R : Value → World → Prop} (hm : c.mem = []) (h : Runs P ⟨w,H⟩ c R) : At P c H w R :=
 fun E ok hin=>h E H w (by rw [hm]; exact good_start hin E) ok
theorem After.trans {w w1 w2 : World} {H H1 H2 : HV} (a : After w H w1 H1) (b : After w1 H1 w2 H2) : After w H w2 H2 :=
 ⟨a.below.trans (b.below.mono a.below.size),a.le.trans b.le,fun x o v h=>by
  rcases b.fresh x o v h with h | h
  ·exact a.fresh x o v h
  ·exact .inr (Nat.le_trans a.below.size h),b.cell⟩
def callAt (ops : Array Oper) (i : Nat) : Option (Builtin × List Operand × List TypeId × Option Tmp) :=
 match ops[i]? with
 | some ⟨dst,.call ⟨.builtin b,args,tys⟩,_,_,_,none⟩=>some (b,args.toList,tys.toList,dst)
 | _=>none
def storeAt (ops : Array Oper) (i : Nat) : Option (TypeId × Operand × Operand × Option Tmp) :=
 match ops[i]? with
 | some ⟨dst,.store t a x,_,_,_,none⟩=>some (t,a,x,dst)
 | _=>none
theorem wanted_none {o : Oper} (h : o.guard = none) (y : Nat → Option Bool) : Region.wanted o y = true := by unfold Region.wanted; rw [h]
theorem stk_builtin {f : FuncId} {ops : Array Oper} {i : Nat} {l : List Nat} {aw dst : Option Tmp} {k : List Item} {tmps : List SV} {rest : List SFrm} {b : Builtin} {args : List Operand} {tys : List TypeId} {E E' : Env} {w w' : World} {R : Value → World → Prop} {u : Value}
  (ho : callAt ops i = some (b,args,tys,dst))
  (hr : ∀ ty,(builtin b tys.toArray ty #[] (args.map fun x=>(evS tmps x).den E).toArray).run P w = .ok (.value u) w')
  (hcst : ∀ (ty : TypeId) (c : Array Bool) (xs : Array Value),builtin b tys.toArray ty c xs = builtin b tys.toArray ty #[] xs)
  (h : StkRun P ctxPlain ⟨f,some (ops,l),aw,k,(⟨(SV.denL E tmps).toArray,[]⟩ : Act).put dst u,none⟩ (rest.map (SFrm.den E')) w' R) :
  StkRun P ctxPlain (SFrm.den E ⟨f,some (ops,i :: l),aw,k,tmps⟩) (rest.map (SFrm.den E')) w R := by
 unfold callAt at ho
 split at ho
 ·rename_i dst' b' args' tys' ty pos after hops
  cases ho
  have hro : RunsTo P ⟨(SV.denL E tmps).toArray,[]⟩ ⟨dst,.call ⟨.builtin b,args',tys'⟩,ty,pos,after,none⟩ w u w' := by
   left
   have := hr ty
   simp only [Array.toArray_toList] at this
   have ev : args'.toList.map (fun x=>(evS tmps x).den E) = (args'.map (Act.eval ⟨(SV.denL E tmps).toArray,[]⟩)).toList := by
    rw [Array.toList_map]
    exact List.map_congr_left fun x _=>(den_evS E tmps [] x).symm
   rw [ev,Array.toArray_toList] at this
   simp only [execOp,resolve,invoke,Sem.run_bind,Sem.run_pure,Result.andThen_ok]
   rw [← Array.toArray_toList (xs := tys'),hcst,Array.toArray_toList]
   exact this
  cases rest with
  | nil =>
   refine frm_op (a := ⟨(SV.denL E tmps).toArray,[]⟩) (ro := none) hops (wanted_none rfl _) hro ?_
   cases dst <;> exact h
  | cons g r=>exact frm_op hops (wanted_none rfl _) hro h
 ·cases ho
theorem run_copy_sz (w : World) (dT sT ty elem : TypeId) (g o dLen dCap : Nat) (a : Addr) (sLen sCap s : Nat) (cur : Array Value) (t : TypeId) (cs : List Value)
  (hu : P.underlying dT = some (.slice elem)) (hs : (P.info? elem).map (·.size) = some s)
  (hg : w.heap[g]? = some (.cells cur t (0,0))) (hn : cs.length = Nat.min sLen dLen * s)
  (hsrc : ∀ j v,cs[j]? = some v → w.cell? (a.add j) = some v) (hfit : o + cs.length ≤ cur.size) (h1 : ∀ v ∈ cs,v.oneCell' = true) :
  (Builtin.copy_ #[dT,sT] ty #[.slice (some ⟨g,o,none⟩) dLen dCap,.slice (some a) sLen sCap]).run P w =
   .ok (goInt (Nat.min sLen dLen)) (w.setRow g (cur.toList.take o ++ cs ++ cur.toList.drop (o + cs.length)).toArray) := by
 have hl := run_loadCells_list (P := P) w a cs hsrc
 have hst := run_storeCells_at P g o t cs 0 cur w hg (by simpa using hfit) h1
 cases hq : P.info? elem with
 | none=>simp [hq] at hs
 | some i =>
  have hi : i.size = s := by simpa [hq] using hs
  simp [Builtin.copy_,run_underlying hu,Builtin.lenOf,Builtin.firstCells,Go.sizeOf,typeInfo,hq,hi,← hn,hl,hst]
end
theorem prefix_of {F L : List Value} (h : ∀ (x : Nat) (v : Value),F[x]? = some v → L[x]? = some v) : L = F ++ L.drop F.length := by
 apply List.ext_getElem?
 intro x
 by_cases hx : x < F.length
 ·rw [List.getElem?_append_left hx,List.getElem?_eq_getElem hx]
  exact h x _ (List.getElem?_eq_getElem hx)
 ·rw [List.getElem?_append_right (by omega),List.getElem?_drop]
  congr 1; omega
def blk (o : D) (v : Nat) : Nat := (o.cell v 0).addr.block
structure ImgW (n : Nat) (H : HV) (w : World) (o : D) : Prop where
 is : o.Is Vol
 sz : o.sz = 1
 ok : o.Ok H
 ne : ∀ v,v < o.len → (o.cell v 0).rows ≠ []
 hd : ∀ v,v < o.len → ∃ c,(o.cell v 0).hd = some (⟨blk o v,0,none⟩,c)
 low : ∀ v,v < o.len → n ≤ blk o v
 dis : ∀ v v',v < o.len → v' < o.len → blk o v = blk o v' → v = v'
 out : ∀ v,v < o.len → o.addr.block ≠ blk o v
 live : ∀ v,v < o.len → ∃ cur t,w.heap[blk o v]? = some (.cells cur t (0,0))
theorem vol_row {o : D} (h : o.Is Vol) {v : Nat} (hv : v < o.len) : o.rows[v]? = some [o.cell v 0] ∧ (o.cell v 0).Is Sec ∧ (o.to Vol)[v]? = some ⟨(o.cell v 0).to Sec⟩ := by
 have hv' : v < (o.to Vol).length := by rw [← D.Is.length (α := Vol)]; exact hv
 obtain ⟨r,h1,⟨d,rfl,hd⟩,h3⟩ := h.row hv'
 have e : o.cell v 0 = d := by simp [D.cell,D.cellAt,h1]
 rw [e]
 exact ⟨h1,hd,by rw [List.getElem?_eq_getElem hv',h3]; rfl⟩
def D.putSec (o : D) (v s : Nat) (rs : List (List D)) : D := .slc o.hd 1 (o.rows.set v [.slc (o.cell v 0).hd 8 ((o.cell v 0).rows.take s ++ rs ++ (o.cell v 0).rows.drop (s + rs.length))])
section
variable {n : Nat} {H : HV} {w : World} {o : D} (h : ImgW n H w o) {v s : Nat} {rs : List (List D)} (hv : v < o.len) (hrs : ∀ r,r ∈ rs → Codec.ok Sec r) (hs : s + rs.length ≤ (o.cell v 0).len)
include h hv hrs hs
theorem put_cell {v' : Nat} (hv' : v' < o.len) : (o.putSec v s rs).cell v' 0 = if v' = v then .slc (o.cell v 0).hd 8 ((o.cell v 0).rows.take s ++ rs ++ (o.cell v 0).rows.drop (s + rs.length)) else o.cell v' 0 := by
 have hl : v' < o.rows.length := hv'
 have e0 : ∀ (a : Hd) (z : Nat) (rows : List (List D)),(D.slc a z rows).cell v' 0 = ((rows[v']?).bind (·[0]?)).getD (.slc none 0 []) := fun _ _ _=>rfl
 unfold D.putSec
 rw [e0]
 by_cases e : v' = v
 ·subst e
  rw [if_pos rfl,List.getElem?_set_self hl]; rfl
 ·rw [if_neg e,List.getElem?_set_ne (Ne.symm e)]; rfl
theorem put_blk {v' : Nat} (hv' : v' < o.len) : blk (o.putSec v s rs) v' = blk o v' := by
 unfold blk
 rw [put_cell h hv hrs hs hv']
 split
 ·rename_i e; subst e; rfl
 ·rfl
theorem put_len : (o.putSec v s rs).len = o.len := by simp [D.putSec,D.len,D.rows]
theorem put_rows_ok : ∀ r,r ∈ (o.cell v 0).rows.take s ++ rs ++ (o.cell v 0).rows.drop (s + rs.length) → Codec.ok Sec r := by
 have hi := (rows_of (vol_row h.is hv).2.1).1
 intro r hr
 rcases List.mem_append.1 hr with hr | hr
 ·rcases List.mem_append.1 hr with hr | hr
  ·exact hi r (List.mem_of_mem_take hr)
  ·exact hrs r hr
 ·exact hi r (List.mem_of_mem_drop hr)
theorem put_rows_len : ((o.cell v 0).rows.take s ++ rs ++ (o.cell v 0).rows.drop (s + rs.length)).length = (o.cell v 0).rows.length := by
 have : s + rs.length ≤ (o.cell v 0).rows.length := hs
 simp only [List.length_append,List.length_take,List.length_drop]; omega
theorem put_to : (o.putSec v s rs).to Vol = (o.to Vol).set v ⟨((o.cell v 0).to Sec).take s ++ rs.map Codec.dec ++ ((o.cell v 0).to Sec).drop (s + rs.length)⟩ := by
 unfold D.putSec
 simp only [D.to,D.rows,List.map_set]
 congr 1
 show (⟨(D.slc (o.cell v 0).hd 8 _).to Sec⟩ : Vol) = _
 simp only [D.to,D.rows,List.map_append,List.map_take,List.map_drop]
theorem put_val : (o.putSec v s rs).val = o.val := by
 obtain ⟨a,b,c,rfl,_⟩ := h.is
 simp [D.putSec,D.val,D.hd,D.rows]
theorem put_is : (o.putSec v s rs).Is Vol := by
 refine is_rows rfl fun r hr=>?_
 rcases List.mem_or_eq_of_mem_set hr with hr | rfl
 ·exact (rows_of h.is).1 r hr
 ·exact ⟨_,rfl,is_rows rfl (put_rows_ok h hv hrs hs)⟩
theorem sec_plain {r : List D} (hr : Codec.ok Sec r) : r.length = 8 ∧ ∀ x,x ∈ r → ∀ H,x.Ok H := by
 obtain ⟨a,b,c,d,e,f,g,i,rfl⟩ := hr
 refine ⟨rfl,fun x hx H=>?_⟩
 simp only [List.mem_cons,List.not_mem_nil,or_false] at hx
 rcases hx with rfl | rfl | rfl | rfl | rfl | rfl | rfl | rfl <;> exact .int _ _
theorem ImgW.put (hin : InMem H w) {w' : World} {cur : Array Value} {t : TypeId} (hg : w.heap[blk o v]? = some (.cells cur t (0,0)))
  (hw : w' = w.setRow (blk o v) (cur.toList.take (s * 8) ++ flat rs ++ cur.toList.drop (s * 8 + (flat rs).length)).toArray) :
  ∃ H',InMem H' w' ∧ ImgW n H' w' (o.putSec v s rs) ∧ (∀ H0 : HV,HLe H0 H → (∀ x,H0 (blk o v) x = none) → HLe H0 H') ∧ (∀ b x u,H' b x = some u → H b x = some u ∨ b = blk o v) ∧ s * 8 + (flat rs).length ≤ cur.size ∧ (∀ b,b ≠ blk o v → w'.heap[b]? = w.heap[b]?) := by
 obtain ⟨hrow,hsec,_⟩ := vol_row h.is hv
 obtain ⟨c,hhd⟩ := h.hd v hv
 have hne := h.ne v hv
 have hi := rows_of hsec
 have hl8 : ∀ r,r ∈ (o.cell v 0).rows → r.length = 8 := fun r hr=>(sec_plain h hv hrs hs (hi.1 r hr)).1
 have hr8 : ∀ r,r ∈ rs → r.length = 8 := fun r hr=>(sec_plain h hv hrs hs (hrs r hr)).1
 have hnl := put_rows_len h hv hrs hs
 have hno := put_rows_ok h hv hrs hs
 generalize hrows' : (o.cell v 0).rows.take s ++ rs ++ (o.cell v 0).rows.drop (s + rs.length) = rows' at hnl hno
 have hr' : ∀ r,r ∈ rows' → r.length = 8 := fun r hr=>(sec_plain h hv hrs hs (hno r hr)).1
 -- the inner slice lies in memory
 have hiok : (o.cell v 0).Ok H := by
  have hok := h.ok
  cases hok with
  | slc a c sz rows hsp hc hlen hcell hk =>
   have hm : rows[v]? = some [(D.slc (some (a,c)) sz rows).cell v 0] := hrow
   exact hk _ (List.mem_of_getElem? hm) _ (by simp)
  | nil sz=>simp [D.len,D.rows] at hv
  | int _ _=>obtain ⟨_,_,_,e,_⟩ := h.is; cases e
  | bool _=>obtain ⟨_,_,_,e,_⟩ := h.is; cases e
  | str _=>obtain ⟨_,_,_,e,_⟩ := h.is; cases e
 have hcells : ∀ i j r x,(o.cell v 0).rows[i]? = some r → r[j]? = some x → H (blk o v) (i * 8 + j) = some x.val := by
  intro i j r x h1 h2
  have hz : (o.cell v 0).sz = 8 := hsec.size (by
   rw [← D.Is.length (α := Sec)]
   have := (List.getElem?_eq_some_iff.1 h1).1
   exact (Nat.lt_of_le_of_lt (Nat.zero_le _) this : 0 < (o.cell v 0).rows.length))
  revert hhd hz h1
  generalize o.cell v 0 = q at hiok
  intro hhd h1 hz
  cases hiok with
  | slc a c sz rows hsp hc hlen hcell hk =>
   simp only [D.hd,Option.some.injEq,Prod.mk.injEq] at hhd
   obtain ⟨rfl,_⟩ := hhd
   simp only [D.sz] at hz
   subst hz
   have := hcell i j r x h1 h2
   simpa using this
  | nil sz=>simp [D.hd] at hhd
  | int _ _=>simp [D.hd] at hhd
  | bool _=>simp [D.hd] at hhd
  | str _=>simp [D.hd] at hhd
 have hpre : ∀ (x : Nat) (u : Value),(flat (o.cell v 0).rows)[x]? = some u → cur.toList[x]? = some u := by
  intro x u hx
  have hlen := flat_len hl8
  have hxl : x < (o.cell v 0).rows.length * 8 := by rw [← hlen]; exact (List.getElem?_eq_some_iff.1 hx).1
  have hi1 : x / 8 < (o.cell v 0).rows.length := by omega
  have hr1 : (o.cell v 0).rows[x / 8]? = some (o.cell v 0).rows[x / 8] := List.getElem?_eq_getElem hi1
  have hrl := hl8 _ (List.getElem_mem hi1)
  have hj1 : x % 8 < ((o.cell v 0).rows[x / 8]).length := by rw [hrl]; exact Nat.mod_lt _ (by decide)
  have hr2 : ((o.cell v 0).rows[x / 8])[x % 8]? = some ((o.cell v 0).rows[x / 8])[x % 8] := List.getElem?_eq_getElem hj1
  have e1 := flat_get hl8 _ _ _ _ hr1 hr2
  have e2 := hcells _ _ _ _ hr1 hr2
  have ex : x / 8 * 8 + x % 8 = x := by omega
  rw [ex] at e1 e2
  rw [hx] at e1
  cases e1
  have e3 := hin _ _ _ e2
  simp only [World.cell?,hg,Option.isSome_none,Bool.false_eq_true,if_false] at e3
  simpa using e3
 have hL := prefix_of hpre
 have hFl : (flat (o.cell v 0).rows).length = (o.cell v 0).rows.length * 8 := flat_len hl8
 have hMl : (flat rs).length = rs.length * 8 := flat_len hr8
 have hsr : s + rs.length ≤ (o.cell v 0).rows.length := hs
 have hfit : s * 8 + (flat rs).length ≤ (flat (o.cell v 0).rows).length := by rw [hFl,hMl,← Nat.add_mul]; exact Nat.mul_le_mul_right _ hsr
 have hcsz : (flat (o.cell v 0).rows).length ≤ cur.size := by
  have := congrArg List.length hL
  simp only [List.length_append,Array.length_toList,List.length_drop] at this
  omega
 have hF' : flat rows' = (flat (o.cell v 0).rows).take (s * 8) ++ flat rs ++ (flat (o.cell v 0).rows).drop (s * 8 + (flat rs).length) := by
  rw [← hrows',flat_append,flat_append]
  have tk : ∀ k,k ≤ (o.cell v 0).rows.length → flat ((o.cell v 0).rows.take k) = (flat (o.cell v 0).rows).take (k * 8) ∧ flat ((o.cell v 0).rows.drop k) = (flat (o.cell v 0).rows).drop (k * 8) := fun k hk=>by
   have e := flat_append ((o.cell v 0).rows.take k) ((o.cell v 0).rows.drop k)
   rw [List.take_append_drop] at e
   have e2 : (flat ((o.cell v 0).rows.take k)).length = k * 8 := by
    rw [flat_len (sz := 8) fun r hr=>hl8 r (List.mem_of_mem_take hr),List.length_take,Nat.min_eq_left hk]
   rw [e]
   exact ⟨by rw [← e2,List.take_left],by rw [← e2,List.drop_left]⟩
  rw [(tk s (by omega)).1,(tk (s + rs.length) hsr).2,hMl,Nat.add_mul]
 have hL' : cur.toList.take (s * 8) ++ flat rs ++ cur.toList.drop (s * 8 + (flat rs).length) = flat rows' ++ cur.toList.drop (flat (o.cell v 0).rows).length := by
  rw [hF']
  have e1 : cur.toList.take (s * 8) = (flat (o.cell v 0).rows).take (s * 8) := by
   rw [hL,List.take_append_of_le_length (by omega)]
  have e2 : cur.toList.drop (s * 8 + (flat rs).length) = (flat (o.cell v 0).rows).drop (s * 8 + (flat rs).length) ++ cur.toList.drop (flat (o.cell v 0).rows).length := by
   conv=>lhs; rw [hL]
   rw [List.drop_append_of_le_length hfit]
  rw [e1,e2,List.append_assoc,List.append_assoc,List.append_assoc]
 rw [hL'] at hw
 have hoth : ∀ b,b ≠ blk o v → w'.heap[b]? = w.heap[b]? := fun b hb=>by rw [hw]; exact setRow_other w _ _ _ hb
 have hnew : w'.heap[blk o v]? = some (.cells (flat rows' ++ cur.toList.drop (flat (o.cell v 0).rows).length).toArray t (0,0)) := by
  rw [hw]; exact setRow_heap w _ cur _ t _ hg
 refine ⟨H.row (blk o v) (flat rows'),?_,?_,?_,?_,by omega,hoth⟩
 ·intro b x u hb
  unfold HV.row at hb
  split at hb
  ·rename_i e
   subst e
   simp only [World.cell?,hnew,Option.isSome_none,Bool.false_eq_true,if_false]
   have := (List.getElem?_eq_some_iff.1 hb).1
   simp only [List.getElem?_toArray]
   rw [List.getElem?_append_left this]; exact hb
  ·rename_i e
   have := hin b x u hb
   simpa [World.cell?,hoth b e] using this
 ·-- the image
  have hrowne : rows' ≠ [] := fun e=>hne (List.length_eq_zero_iff.1 (by rw [← hnl,e]; rfl))
  have pc := @put_cell n H w o h v s rs hv hrs hs
  have pb := @put_blk n H w o h v s rs hv hrs hs
  have pl := put_len h hv hrs hs
  refine ⟨put_is h hv hrs hs,rfl,?_,fun v' hv'=>?_,fun v' hv'=>?_,fun v' hv'=>?_,fun v1 v2 h1 h2 e=>?_,fun v' hv'=>?_,fun v' hv'=>?_⟩
  ·-- in memory
   have key : ∀ v',(hv' : v' < o.len) → ((o.putSec v s rs).cell v' 0).Ok (H.row (blk o v) (flat rows')) := by
    intro v' hv'
    rw [pc hv']
    by_cases e : v' = v
    ·rw [if_pos e,hhd,hrows']
     refine .slc _ _ _ _ (fun _=>rfl) ?_ hr' (fun i j r x h1 h2=>?_) (fun r hr x hx=>(sec_plain h hv hrs hs (hno r hr)).2 x hx _)
     ·rw [hnl]
      revert hhd
      generalize o.cell v 0 = q at hiok
      intro hhd
      cases hiok with
      | slc a c' sz rows hsp hc hlen hcell hk=>simp only [D.hd,Option.some.injEq,Prod.mk.injEq] at hhd; rw [← hhd.2]; exact hc
      | nil sz=>simp [D.hd] at hhd
      | int _ _=>simp [D.hd] at hhd
      | bool _=>simp [D.hd] at hhd
      | str _=>simp [D.hd] at hhd
     ·simp only [HV.row,if_true,Nat.zero_add]
      exact flat_get hr' i j r x h1 h2
    ·rw [if_neg e]
     obtain ⟨hrow',hsec',_⟩ := vol_row h.is hv'
     obtain ⟨c',hhd'⟩ := h.hd v' hv'
     have hbne : blk o v' ≠ blk o v := fun e'=>e (h.dis v' v hv' hv e')
     have hok' : (o.cell v' 0).Ok H := by
      have hok := h.ok
      cases hok with
      | slc a c sz rows hsp hc hlen hcell hk =>
       have hm : rows[v']? = some [(D.slc (some (a,c)) sz rows).cell v' 0] := hrow'
       exact hk _ (List.mem_of_getElem? hm) _ (by simp)
      | nil sz=>simp [D.len,D.rows] at hv'
      | int _ _=>obtain ⟨_,_,_,e,_⟩ := h.is; cases e
      | bool _=>obtain ⟨_,_,_,e,_⟩ := h.is; cases e
      | str _=>obtain ⟨_,_,_,e,_⟩ := h.is; cases e
     have hsr' := (rows_of hsec').1
     revert hhd' hsr'
     generalize o.cell v' 0 = q at hok'
     intro hhd' hsr'
     cases hok' with
     | slc a c2 sz rows hsp hc hlen hcell hk =>
      simp only [D.hd,Option.some.injEq,Prod.mk.injEq] at hhd'
      obtain ⟨rfl,rfl⟩ := hhd'
      refine .slc _ _ _ _ hsp hc hlen (fun i j r x h1 h2=>?_) (fun r hr x hx=>(sec_plain h hv hrs hs (hsr' r hr)).2 x hx _)
      have := hcell i j r x h1 h2
      simp only [HV.row]
      rw [if_neg hbne]; exact this
     | nil sz=>simp [D.hd] at hhd'
     | int _ _=>simp [D.hd] at hhd'
     | bool _=>simp [D.hd] at hhd'
     | str _=>simp [D.hd] at hhd'
   have hok := h.ok
   have hout := h.out v hv
   have hsz := h.sz
   have hlen' : (o.putSec v s rs).rows.length = o.rows.length := pl
   have hrl' : ∀ r,r ∈ (o.putSec v s rs).rows → ∃ v',v' < o.len ∧ r = [(o.putSec v s rs).cell v' 0] := fun r hr=>by
    obtain ⟨i,hi',rfl⟩ := List.getElem_of_mem hr
    have hi2 : i < o.len := by rw [hlen'] at hi'; exact hi'
    have := (vol_row (put_is h hv hrs hs) (v := i) (by rw [pl]; exact hi2)).1
    rw [List.getElem?_eq_getElem hi'] at this
    exact ⟨i,hi2,Option.some.inj this⟩
   have hvals : ∀ i,i < o.len → ((o.putSec v s rs).cell i 0).val = (o.cell i 0).val := fun i hi'=>by
    rw [pc hi']
    split
    ·rename_i e; subst e
     obtain ⟨a,b,cc,e',_⟩ := hsec
     rw [hrows']
     rw [e'] at hnl ⊢
     simp only [D.val,D.hd,D.rows] at hnl ⊢
     rw [hnl]
    ·rfl
   have hput : o.putSec v s rs = .slc o.hd 1 (o.putSec v s rs).rows := rfl
   rw [hput]
   have hc1 : ∀ i,i < o.len → o.rows[i]? = some [o.cell i 0] := fun i hi'=>(vol_row h.is hi').1
   have hc2 : ∀ i,i < o.len → (o.putSec v s rs).rows[i]? = some [(o.putSec v s rs).cell i 0] := fun i hi'=>(vol_row (put_is h hv hrs hs) (by rw [pl]; exact hi')).1
   generalize (o.putSec v s rs).rows = R at hlen' hrl' hc2
   generalize hcell' : (fun i=>(o.putSec v s rs).cell i 0) = cf at *
   have cfe : ∀ i,(o.putSec v s rs).cell i 0 = cf i := fun i=>congrFun hcell' i
   simp only [cfe] at hrl' hvals hc2 key
   clear cfe hcell' pc pb hput
   cases hok with
   | slc a c' sz rows hsp hc hlen hcell hk =>
    simp only [D.sz] at hsz
    subst hsz
    simp only [D.hd]
    refine .slc _ _ _ _ (fun _=>hsp (fun e=>by rw [e] at hv; simp [D.len,D.rows] at hv)) (by rw [hlen']; exact hc) (fun r hr=>by obtain ⟨v',_,rfl⟩ := hrl' r hr; rfl) (fun i j r x h1 h2=>?_) (fun r hr x hx=>?_)
    ·have hi' : i < R.length := (List.getElem?_eq_some_iff.1 h1).1
     have hi2 : i < rows.length := by rw [hlen'] at hi'; exact hi'
     have e1 := hc2 i hi2
     rw [h1] at e1
     cases e1
     have hj : j = 0 := by
      have := (List.getElem?_eq_some_iff.1 h2).1
      simp at this; exact this
     subst hj
     simp only [List.getElem?_cons_zero,Option.some.injEq] at h2
     subst h2
     have e2 := hcell i 0 _ _ (hc1 i hi2) rfl
     have e3 := hvals i hi2
     rw [e3]
     simp only [HV.row]
     rw [if_neg (show ¬a.block = _ from hout)]; exact e2
    ·obtain ⟨v',hv',rfl⟩ := hrl' r hr
     rw [List.mem_singleton.1 hx]
     exact key v' hv'
   | nil sz=>simp [D.len,D.rows] at hv
   | int _ _=>obtain ⟨_,_,_,e,_⟩ := h.is; cases e
   | bool _=>obtain ⟨_,_,_,e,_⟩ := h.is; cases e
   | str _=>obtain ⟨_,_,_,e,_⟩ := h.is; cases e
  ·rw [pl] at hv'
   rw [pc hv']
   split
   ·rw [hrows']; exact hrowne
   ·exact h.ne v' hv'
  ·rw [pl] at hv'
   rw [pb hv',pc hv']
   split
   ·rename_i e; subst e; exact ⟨c,hhd⟩
   ·exact h.hd v' hv'
  ·rw [pl] at hv'; rw [pb hv']; exact h.low v' hv'
  ·rw [pl] at h1 h2; rw [pb h1,pb h2] at e; exact h.dis v1 v2 h1 h2 e
  ·rw [pl] at hv'; rw [pb hv']; exact h.out v' hv'
  ·rw [pl] at hv'; rw [pb hv']
   by_cases e : blk o v' = blk o v
   ·rw [e]; exact ⟨_,_,hnew⟩
   ·rw [hoth _ e]; exact h.live v' hv'
 ·intro H0 hle hn b x u hb
  unfold HV.row
  split
  ·rename_i e; subst e; rw [hn] at hb; cases hb
  ·exact hle b x u hb
 ·intro b x u hb
  unfold HV.row at hb
  split at hb
  ·rename_i e; exact .inr e
  ·exact .inl hb
end
theorem ImgW.mono {n : Nat} {H H' : HV} {w w' : World} {o : D} (h : ImgW n H w o) (a : After w H w' H') : ImgW n H' w' o :=
 ⟨h.is,h.sz,h.ok.mono a.le,h.ne,h.hd,h.low,h.dis,h.out,fun v hv=>by
  obtain ⟨cur,t,hg⟩ := h.live v hv
  exact ⟨cur,t,by rw [a.below.block _ (Array.getElem?_eq_some_iff.1 hg).1]; exact hg⟩⟩
/-! A frame's slots, from this very world on. -/
def envJ (E : Env) (T : Array Value) : Env := ⟨E.b,E.v,fun i=>T.getD i Go.undef⟩
theorem slotS_cases (l : List (Nat × SV)) (t : Nat) (d : SV) : slotS l t d = d ∨ ∃ p,p ∈ l ∧ p.1 = t ∧ slotS l t d = p.2 := by
 induction l with
 | nil=>exact .inl rfl
 | cons p r ih =>
  obtain ⟨u,v⟩ := p
  unfold slotS
  by_cases h : u = t
  ·subst h; right; exact ⟨(u,v),List.mem_cons_self,rfl,by simp⟩
  ·have hb : (u == t) = false := by simpa using h
   rw [hb]
   simp only [Bool.false_eq_true,if_false]
   rcases ih with h | ⟨p,h1,h2,h3⟩
   ·exact .inl h
   ·exact .inr ⟨p,List.mem_cons_of_mem _ h1,h2,h3⟩
theorem den_mkJ {E : Env} {T : Array Value} {sl : List (Nat × SV)} (hs : ∀ p,p ∈ sl → p.2.den (envJ E T) = T.getD p.1 Go.undef) : ∀ (m t : Nat),t + m = T.size → SV.denL (envJ E T) (mkJ 0 sl t m) = T.toList.drop t
 | 0,t,h=>by
  simp only [mkJ,SV.denL]
  rw [List.drop_eq_nil_of_le (by rw [Array.length_toList]; omega)]
 | m + 1,t,h=>by
  have ht : t < T.toList.length := by rw [Array.length_toList]; omega
  have e : (slotS sl t (.junk (1000 * 0 + t))).den (envJ E T) = T.toList[t] := by
   have e2 : T.getD t Go.undef = T.toList[t] := by
    have : t < T.size := by omega
    simp [this]
   rcases slotS_cases sl t (.junk (1000 * 0 + t)) with h1 | ⟨p,h1,h2,h3⟩
   ·rw [h1,← e2]; simp [SV.den,envJ]
   ·rw [h3,hs p h1,h2,e2]
  simp only [mkJ,SV.denL]
  rw [den_mkJ hs m (t + 1) (by omega),e,← List.drop_eq_getElem_cons ht]
theorem ok_mkJ {H : HV} {sl : List (Nat × SV)} (hs : ∀ p,p ∈ sl → p.2.Ok H) (m t : Nat) : SV.OkL H (mkJ 0 sl t m) := by
 rw [SV.OkL_iff]
 intro x hx
 have : ∀ (m t : Nat),x ∈ mkJ 0 sl t m → ∃ t,x = slotS sl t (.junk (1000 * 0 + t)) := by
  intro m
  induction m with
  | zero=>intro t h; simp [mkJ] at h
  | succ m ih =>
   intro t h
   simp only [mkJ,List.mem_cons] at h
   rcases h with h | h
   ·exact ⟨t,h⟩
   ·exact ih _ h
 obtain ⟨t,rfl⟩ := this m t hx
 rcases slotS_cases sl t (.junk (1000 * 0 + t)) with h1 | ⟨p,h1,_,h3⟩
 ·rw [h1]; simp [SV.Ok]
 ·rw [h3]; exact hs p h1
theorem stk_to {P : Program} {f : FuncId} {ri : Option (Array Oper × List Nat)} {aw : Option Tmp} {k : List Item} {T : Array Value} {sl : List (Nat × SV)} {n : Nat} {E : Env} {H : HV} {w : World} {R : Value → World → Prop} (hn : n = T.size)
  (hs : ∀ p,p ∈ sl → p.2.den (envJ E T) = T.getD p.1 Go.undef) (hok : ∀ p,p ∈ sl → p.2.Ok H) (hin : InMem H w) (h : At P ⟨⟨f,ri,aw,k,mkJ 0 sl 0 n⟩,[],[]⟩ H w R) : StkRun P ctxPlain ⟨f,ri,aw,k,⟨T,[]⟩,none⟩ [] w R := by
 have := h (envJ E T) ⟨ok_mkJ hok _ _,by simp⟩ hin
 simp only [SFrm.den,List.map_nil] at this
 rw [den_mkJ hs n 0 (by omega),List.drop_zero,Array.toArray_toList] at this
 exact this
end Sx
end
noncomputable section
namespace Sx
open Go RowKit
def innerOk (n : Nat) (H : HV) (w : World) (d : D) : Prop :=
 d.Is Sec ∧ d.Ok H ∧ d.rows ≠ [] ∧ ∃ B c,d.hd = some (⟨B,0,none⟩,c) ∧ n ≤ B ∧ ∃ cur t,w.heap[B]? = some (.cells cur t (0,0))
def blkD (d : D) : Nat := d.addr.block
structure BuildI (n : Nat) (H : HV) (w : World) (e : TypeId) (ov : Value) (ds : List D) : Prop where
 own : w.ownsRow n e 1 ov ds.length (flat (ds.map fun d=>[d]))
 noH : ∀ b,ov.ownBlock = some b → ∀ x,H b x = none
 inn : ∀ d,d ∈ ds → innerOk n H w d
 dis : (ds.map blkD).Nodup
theorem blkD_of {d : D} {B c : Nat} (h : d.hd = some (⟨B,0,none⟩,c)) : blkD d = B := by unfold blkD D.addr; rw [h]
theorem innerOk.mono {n : Nat} {H H' : HV} {w w' : World} {d : D} (h : innerOk n H w d) (a : After w H w' H') : innerOk n H' w' d := by
 obtain ⟨h1,h2,h3,B,c,h4,h5,cur,t,h6⟩ := h
 exact ⟨h1,h2.mono a.le,h3,B,c,h4,h5,cur,t,by rw [a.below.block _ (Array.getElem?_eq_some_iff.1 h6).1]; exact h6⟩
theorem innerOk.cell {n : Nat} {H : HV} {w : World} {d : D} (h : innerOk n H w d) : ∃ u,H (blkD d) 0 = some u := by
 obtain ⟨h1,h2,h3,B,c,h4,_⟩ := h
 rw [blkD_of h4]
 have hr := (rows_of h1).1
 cases h2 with
 | slc a c' sz rows hsp hc hlen hcell hk =>
  simp only [D.hd,Option.some.injEq,Prod.mk.injEq] at h4
  obtain ⟨rfl,rfl⟩ := h4
  cases rows with
  | nil=>exact absurd rfl h3
  | cons r rs =>
   have := hr r (by simp [D.rows])
   obtain ⟨x0,x1,x2,x3,x4,x5,x6,x7,rfl⟩ := this
   exact ⟨_,by simpa using hcell 0 0 _ _ rfl rfl⟩
 | nil sz=>simp [D.hd] at h4
 | int _ _=>simp [D.hd] at h4
 | bool _=>simp [D.hd] at h4
 | str _=>simp [D.hd] at h4
theorem BuildI.mono {n : Nat} {H H' : HV} {w w' : World} {e : TypeId} {ov : Value} {ds : List D} (h : BuildI n H w e ov ds) (a : After w H w' H') : BuildI n H' w' e ov ds := by
 refine ⟨⟨h.own.1,?_⟩,fun b hb x=>?_,fun d hd=>(h.inn d hd).mono a,h.dis⟩
 ·rcases h.own.2 with h1 | ⟨g,cap,cur,h1,h2,h3,h4⟩
  ·exact .inl h1
  ·exact .inr ⟨g,cap,cur,h1,h2,by rw [a.below.block _ (Array.getElem?_eq_some_iff.1 h3).1]; exact h3,h4⟩
 ·have hlt : b < w.heap.size := by
   rcases h.own.2 with ⟨h1,_⟩ | ⟨g,cap,cur,h1,h2,h3,h4⟩
   ·rw [h1] at hb; simp [Value.ownBlock] at hb
   ·rw [h1] at hb
    simp only [Value.ownBlock,Option.some.injEq] at hb
    subst hb
    exact (Array.getElem?_eq_some_iff.1 h3).1
  cases hx : H' b x with
  | none=>rfl
  | some u =>
   rcases a.fresh b x u hx with h1 | h1
   ·rw [h.noH b hb x] at h1; cases h1
   ·omega
theorem pub_inner {w w1 : World} {H H1 : HV} {m : Mem} {E : Env} {k : Nat} {e : TypeId} {d : D} (g : Good ⟨w,H⟩ m E H1 w1) (hg : m.get k = some (.arr e d)) (hs : d.Is Sec) (hne : d.rows ≠ []) :
  ∃ H2,After w H w1 H2 ∧ HLe H1 H2 ∧ innerOk w.heap.size H2 w1 d ∧ (SV.vec k).den E = d.val := by
 obtain ⟨H2,hle,g2,hok,_⟩ := g.publish hg
 obtain ⟨h,sz,rows,rfl,hv,how,_,_,ha⟩ := g.own k _ (Mem.get_mem hg)
 refine ⟨H2,after_good g2,hle,⟨hs,hok,hne,?_⟩,?_⟩
 ·rcases how.2 with ⟨h1,h0⟩ | ⟨gg,cap,cur,h1,h2,h3,_⟩
  ·exact absurd (List.length_eq_zero_iff.1 h0) hne
  ·cases h with
   | none=>simp [D.val,hval] at h1
   | some ac =>
    obtain ⟨a,c⟩ := ac
    simp only [D.val,hval,Value.slice.injEq,Option.some.injEq] at h1
    obtain ⟨rfl,_,rfl⟩ := h1
    exact ⟨gg,c,rfl,h2,cur,_,h3⟩
 ·simp only [SV.den,hv]; rfl
theorem build_append {P : Program} {w0 w w1 : World} {H0 H H1 : HV} {m : Mem} {E : Env} {k : Nat} {t ty e : TypeId} {i : TypeInfo} {z ov : Value} {ds : List D} {d : D} {hh : Hd}
  (ht : P.underlying t = some (.slice e)) (hi : P.info? e = some i) (hz : i.zero = some z) (hzs : z.cells.size = i.size) (his : i.size = 1) (hib : i.bytes ≤ 1000)
  (a : After w0 H0 w H) (b : BuildI w0.heap.size H w e ov ds) (hd : innerOk w0.heap.size H w d) (hnew : blkD d ∉ ds.map blkD) (g : Good ⟨w,H⟩ m E H1 w1) (hg : m.get k = some (.arr e (.slc hh 1 [[d]]))) (hlen : ds.length ≤ 1048576) {key : Nat} (hkey : Mem.has key m = false) :
  ∃ w2 ov',(Builtin.append_ #[t,t] ty #[ov,(SV.vec k).den E]).run P w1 = .ok ov' w2 ∧ After w0 H0 w2 H1 ∧ BuildI w0.heap.size H1 w2 e ov' (ds ++ [d]) := by
 have a1 := after_good g
 have b1 := b.mono a1
 have hd1 := hd.mono a1
 have a01 := a.trans a1
 have hmem := Mem.get_mem hg
 obtain ⟨h',sz',rows',he,hv,how,hrl,hro,hb⟩ := g.own k _ hmem
 cases he
 have gd : Good ⟨w0,H1⟩ m E H1 w1 := ⟨a01.below,HLe.refl _,fun _ _ _ h=>.inl h,g.cell,fun j o hj=>(g.own j o hj).ctx a.below.size,g.keys,g.apart,fixOk_plain _ _ _⟩
 have hxr : Reads w1 ((SV.vec k).den E) i.size [[d]] := by
  rw [his]
  have := reads_own (C := ⟨w,H⟩) (H := H1) (g.own k _ hmem)
  simp only [SV.den]
  exact this
 have hold : ∀ r,r ∈ ds.map (fun d=>[d]) → r.length = i.size := fun r hr=>by obtain ⟨x,_,rfl⟩ := List.mem_map.1 hr; rw [his]; rfl
 obtain ⟨w2,h2,bb,hrun,g2,hsz,hkeep,hbb,hos⟩ := Good.append t ty e i z ht hi hz hzs gd ov (ds.map fun d=>[d]) (by rw [his,List.length_map]; exact b1.own) hold
  (fun r hr x hx=>by
   obtain ⟨y,hy,rfl⟩ := List.mem_map.1 hr
   rw [List.mem_singleton.1 hx]; exact (b1.inn y hy).2.1)
  (fun q hq=>⟨b1.noH q hq,fun j p hj hl=>by
   have h1 := (g.own j p hj).low hl
   have hlt : q < w.heap.size := by
    rcases b.own.2 with ⟨h1,_⟩ | ⟨g',cap,cur,h1,_,h3,_⟩
    ·rw [h1] at hq; simp [Value.ownBlock] at hq
    ·rw [h1] at hq
     simp only [Value.ownBlock,Option.some.injEq] at hq
     subst hq
     exact (Array.getElem?_eq_some_iff.1 h3).1
   have h1 : w.heap.size ≤ E.b j := h1
   omega⟩)
  ((SV.vec k).den E) [[d]] hxr (fun r hr x hx=>by
   rw [List.mem_singleton.1 hr] at hx
   rw [List.mem_singleton.1 hx]; exact hd1.2.1)
  (by
   have : (ds.length + 1) * i.bytes ≤ 1048577 * 1000 := Nat.mul_le_mul (by omega) hib
   rw [List.length_map]
   show (ds.length + 1) * i.bytes ≤ _
   omega)
  (by rw [List.length_map]; show ds.length + 1 ≤ maxLen; unfold maxLen; omega) key hkey
 have hcell2 : ∀ q x u,H1 q x = some u → w2.cell? ⟨q,x,none⟩ = some u := g2.cell
 have o2 := g2.own key _ List.mem_cons_self
 obtain ⟨hx,szx,rowsx,he2,hv2,how2,_,_,ha2⟩ := o2
 cases he2
 have hap : ds.map (fun d=>[d]) ++ [[d]] = (ds ++ [d]).map fun d=>[d] := by simp
 refine ⟨w2,_,hrun,⟨g2.below,a01.le,a01.fresh,hcell2⟩,⟨?_,fun q hq x=>?_,fun y hy=>?_,?_⟩⟩
 ·rw [hap] at how2
  rw [his] at how2
  have e1 : (D.slc h2 1 ((ds ++ [d]).map fun d=>[d])).val = hval h2 ((ds.map fun d=>[d]).length + [[d]].length) := by
   simp [D.val]
  rw [e1] at how2
  simpa using how2
 ·cases h2 with
  | none=>simp [hval,Value.ownBlock] at hq
  | some ac =>
   obtain ⟨a',c'⟩ := ac
   simp only [hval,Value.ownBlock,Option.some.injEq] at hq
   obtain ⟨e1,e2⟩ := ha2 a' c' rfl
   rw [← hq,e1]; exact e2 x
 ·have hy1 : innerOk w0.heap.size H1 w1 y := by
   rcases List.mem_append.1 hy with h | h
   ·exact b1.inn y h
   ·rw [List.mem_singleton.1 h]; exact hd1
  obtain ⟨u,hu⟩ := hy1.cell
  obtain ⟨q1,q2,q3,B,c,q4,q5,cur,tt,q6⟩ := hy1
  refine ⟨q1,q2,q3,B,c,q4,q5,cur,tt,?_⟩
  rw [hkeep B (Array.getElem?_eq_some_iff.1 q6).1 (fun e'=>by
   have := b1.noH B e' 0
   rw [blkD_of q4] at hu
   rw [hu] at this; cases this)]
  exact q6
 ·rw [List.map_append,List.nodup_append]
  refine ⟨b1.dis,by simp,fun x hx y hy=>?_⟩
  simp only [List.map_cons,List.map_nil,List.mem_singleton] at hy
  subst hy
  intro e'; subst e'; exact hnew hx
theorem nodup_inj : ∀ {l : List Nat},l.Nodup → ∀ {i j : Nat} (hi : i < l.length) (hj : j < l.length),l[i] = l[j] → i = j
 | [],_,_,_,hi,_,_=>absurd hi (Nat.not_lt_zero _)
 | x :: r,h,i,j,hi,hj,e=>by
  rw [List.nodup_cons] at h
  cases i with
  | zero =>
   cases j with
   | zero=>rfl
   | succ j =>
    simp only [List.getElem_cons_zero,List.getElem_cons_succ] at e
    exact absurd (e ▸ List.getElem_mem _) h.1
  | succ i =>
   cases j with
   | zero =>
    simp only [List.getElem_cons_zero,List.getElem_cons_succ] at e
    exact absurd (e ▸ List.getElem_mem _) h.1
   | succ j =>
    simp only [List.getElem_cons_succ] at e
    rw [nodup_inj h.2 _ _ e]
theorem build_done {n : Nat} {H : HV} {w : World} {e : TypeId} {ov : Value} {ds : List D} (b : BuildI n H w e ov ds) (hne : ds ≠ []) (hin : InMem H w) :
  ∃ H' o,HLe H H' ∧ InMem H' w ∧ (∀ q x u,H' q x = some u → H q x = some u ∨ n ≤ q) ∧ ImgW n H' w o ∧ o.val = ov ∧ o.rows = ds.map fun d=>[d] := by
 rcases b.own.2 with ⟨_,h0⟩ | ⟨g,cap,cur,rfl,hlow,hg,hnc,hcm,hcs,htake⟩
 ·exact absurd (List.length_eq_zero_iff.1 h0) hne
 ·have hno : ∀ x,H g x = none := b.noH g rfl
  have hle : HLe H (H.row g (flat (ds.map fun d=>[d]))) := HV.row_le hno
  let o : D := .slc (some (⟨g,0,none⟩,cap)) 1 (ds.map fun d=>[d])
  have hcell : ∀ v,(hv : v < ds.length) → o.cell v 0 = ds[v] := fun v hv=>by
   simp [o,D.cell,D.cellAt,D.rows,hv]
  have hlen : o.len = ds.length := by simp [o,D.len,D.rows]
  have hbk : ∀ v,(hv : v < ds.length) → blk o v = blkD ds[v] := fun v hv=>by unfold blk; rw [hcell v hv]; rfl
  refine ⟨H.row g (flat (ds.map fun d=>[d])),o,hle,fun q x u hq=>?_,fun q x u hq=>?_,⟨?_,rfl,?_,fun v hv=>?_,fun v hv=>?_,fun v hv=>?_,fun v v' h1 h2 e'=>?_,fun v hv=>?_,fun v hv=>?_⟩,by simp [o,D.val,hval],rfl⟩
  ·unfold HV.row at hq
   split at hq
   ·rename_i e'; subst e'
    simp only [World.cell?,hg,Option.isSome_none,Bool.false_eq_true,if_false]
    rw [← htake,List.getElem?_take] at hq
    split at hq
    ·simpa using hq
    ·cases hq
   ·exact hin q x u hq
  ·unfold HV.row at hq
   split at hq
   ·rename_i e'; subst e'; exact .inr hlow
   ·exact .inl hq
  ·refine is_rows rfl fun r hr=>?_
   obtain ⟨d,hd,rfl⟩ := List.mem_map.1 hr
   exact ⟨d,rfl,(b.inn d hd).1⟩
  ·refine .slc _ _ _ _ (fun _=>rfl) (by simpa using hnc) (fun r hr=>by obtain ⟨d,_,rfl⟩ := List.mem_map.1 hr; rfl) (fun i j r x h1 h2=>?_) (fun r hr x hx=>?_)
   ·simp only [HV.row,if_true,Nat.zero_add]
    exact flat_get (sz := 1) (fun r hr=>by obtain ⟨d,_,rfl⟩ := List.mem_map.1 hr; rfl) i j r x h1 h2
   ·obtain ⟨d,hd,rfl⟩ := List.mem_map.1 hr
    rw [List.mem_singleton.1 hx]; exact (b.inn d hd).2.1.mono hle
  all_goals rw [hlen] at *
  ·rw [hcell v hv]; exact (b.inn _ (List.getElem_mem hv)).2.2.1
  ·rw [hbk v hv,hcell v hv]
   obtain ⟨_,_,_,B,c,h4,_⟩ := b.inn _ (List.getElem_mem hv)
   exact ⟨c,by rw [blkD_of h4]; exact h4⟩
  ·rw [hbk v hv]
   obtain ⟨_,_,_,B,c,h4,h5,_⟩ := b.inn _ (List.getElem_mem hv)
   rw [blkD_of h4]; exact h5
  ·rw [hbk v h1,hbk v' h2] at e'
   have hn := b.dis
   have l1 : v < (ds.map blkD).length := by rw [List.length_map]; exact h1
   have l2 : v' < (ds.map blkD).length := by rw [List.length_map]; exact h2
   have g1 : (ds.map blkD)[v] = blkD ds[v] := List.getElem_map ..
   have g2 : (ds.map blkD)[v'] = blkD ds[v'] := List.getElem_map ..
   exact nodup_inj hn l1 l2 (by rw [g1,g2,e'])
  ·rw [hbk v hv]
   obtain ⟨u,hu⟩ := (b.inn _ (List.getElem_mem hv)).cell
   show g ≠ _
   intro e'
   rw [← e',hno] at hu; cases hu
  ·rw [hbk v hv]
   obtain ⟨_,_,_,B,c,h4,h5,cur',t',h6⟩ := b.inn _ (List.getElem_mem hv)
   rw [blkD_of h4]; exact ⟨cur',t',h6⟩
theorem innerOk.low {n n' : Nat} {H : HV} {w : World} {d : D} (h : innerOk n H w d) (hn : n' ≤ n) : innerOk n' H w d := by
 obtain ⟨h1,h2,h3,B,c,h4,h5,h6⟩ := h
 exact ⟨h1,h2,h3,B,c,h4,Nat.le_trans hn h5,h6⟩
theorem innerOk.fresh {n : Nat} {H H' : HV} {w w' : World} {e : TypeId} {ov : Value} {ds : List D} {d : D} (h : innerOk w.heap.size H' w' d) (b : BuildI n H w e ov ds) : blkD d ∉ ds.map blkD := by
 intro hm
 obtain ⟨y,hy,hyd⟩ := List.mem_map.1 hm
 obtain ⟨_,_,_,B,c,h4,h5,_⟩ := h
 obtain ⟨_,_,_,B',c',h4',_,cur,t,h6'⟩ := b.inn y hy
 have := (Array.getElem?_eq_some_iff.1 h6').1
 rw [blkD_of h4,blkD_of h4'] at hyd
 omega
def CpR (w0 : World) (H0 : HV) (vs : List Vol) : Value → World → Prop := fun u w'=>∃ H' o,After w0 H0 w' H' ∧ ImgW w0.heap.size H' w' o ∧ u = o.val ∧ o.to Vol = vs
theorem ret_img {P : Program} {w0 w : World} {H0 H : HV} {e : TypeId} {ov : Value} {ds : List D} {vs : List Vol} (a : After w0 H0 w H) (b : BuildI w0.heap.size H w e ov ds) (hne : ds ≠ []) (hto : ds.map (fun d=>Vol.mk (d.to Sec)) = vs) :
  (Tree.ret (.raw ov)).holds P ⟨w,H⟩ (CpR w0 H0 vs) := by
 refine ⟨rfl,fun E H' w' g hv=>?_⟩
 have a1 := a.trans (after_good g)
 obtain ⟨H2,o,hle,hin,hfr,hI,hv,hr⟩ := build_done (b.mono (after_good g)) hne g.cell
 refine ⟨H2,o,⟨a1.below,a1.le.trans hle,fun q x u hq=>?_,hin⟩,hI,hv.symm,?_⟩
 ·rcases hfr q x u hq with h | h
  ·exact a1.fresh q x u h
  ·exact .inr h
 ·simp only [D.to,hr,List.map_map]
  rw [← hto]; rfl
theorem buildI_own {w w1 : World} {H H1 : HV} {m : Mem} {E : Env} {k : Nat} {e : TypeId} {hh : Hd} (g : Good ⟨w,H⟩ m E H1 w1) (hg : m.get k = some (.arr e (.slc hh 1 []))) : BuildI w.heap.size H1 w1 e ((SV.vec k).den E) [] := by
 obtain ⟨h,sz,rows,he,hv,how,_,_,ha⟩ := g.own k _ (Mem.get_mem hg)
 cases he
 refine ⟨?_,fun b hb x=>?_,fun d hd=>by simp at hd,by simp⟩
 ·simp only [SV.den,hv]
  exact how
 ·simp only [SV.den,hv] at hb
  cases hh with
  | none=>simp [hval,Value.ownBlock] at hb
  | some ac =>
   obtain ⟨a,c⟩ := ac
   simp only [hval,Value.ownBlock,Option.some.injEq] at hb
   obtain ⟨e1,e2⟩ := ha a c rfl
   rw [← hb,e1]; exact e2 x
theorem stk_call {P : Program} {f : FuncId} {ri : Option (Array Oper × List Nat)} {aw : Option Tmp} {k : List Item} {T : Array Value} {sl : List (Nat × SV)} {n : Nat} {E : Env} {H : HV} {w : World} {R1 R : Value → World → Prop} {g : CFrm} {r : List CFrm} (hn : n = T.size)
  (hs : ∀ p,p ∈ sl → p.2.den (envJ E T) = T.getD p.1 Go.undef) (hok : ∀ p,p ∈ sl → p.2.Ok H) (hin : InMem H w) (h : At P ⟨⟨f,ri,aw,k,mkJ 0 sl 0 n⟩,[],[]⟩ H w R1)
  (h2 : ∀ u w',R1 u w' → StkRun P ctxPlain { g with act := g.act.put g.await u } r w' R) : StkRun P ctxPlain ⟨f,ri,aw,k,⟨T,[]⟩,none⟩ (g :: r) w R := by
 have hr := stk_to hn hs hok hin h
 exact CFrm.run_mono hr h2
theorem stk_aw {P : Program} {f : FuncId} {ri : Option (Array Oper × List Nat)} {aw aw' : Option Tmp} {k : List Item} {a : Act} {r : List CFrm} {w : World} {R : Value → World → Prop} (h : StkRun P ctxPlain ⟨f,ri,aw,k,a,none⟩ r w R) : StkRun P ctxPlain ⟨f,ri,aw',k,a,none⟩ r w R := by
 cases r <;> exact h
end Sx
end
noncomputable section
open Go Go.Proofs Sx
namespace Sv
def ctImA : Ctrs := [(72,ctrOf (rdD.one.sp spChkI)),(114,ctrOf ((rdD.two rdWt).sp spFits1))]
section
variable (im l : D)
end
end Sv
end
