/- Symbolic data and symbolic memory: what a value is, what a block holds, and when a world is as a symbolic memory says. -/
import Derived.WalkKit
import Derived.Lib.LazyBuf
import Derived.Laws.StructEq
import Derived.ChangeKeysEq
import Derived.Laws.BytesString
import Derived.MapKept
import Derived.ArgAppend
set_option linter.all false
set_option maxRecDepth 100000
set_option maxHeartbeats 0
noncomputable section
namespace Sx
open Go
abbrev Hd := Option (Addr × Nat)
inductive D where
 | int (k : IntKind) (n : Int)
 | bool (b : Bool)
 | str (s : ByteArray)
 | slc (h : Hd) (sz : Nat) (rows : List (List D))

instance : Inhabited D := ⟨.bool false⟩

def hval (h : Hd) (n : Nat) : Value :=
 match h with
 | none=>.slice none 0 0
 | some (a,c)=>.slice (some a) n c

def D.val : D → Value
 | .int k n=>.int k n
 | .bool b=>.bool b
 | .str s=>.string s
 | .slc h _ rows=>hval h rows.length

def D.hd : D → Hd
 | .slc h _ _=>h
 | _=>none
def D.sz : D → Nat
 | .slc _ s _=>s
 | _=>0
def D.rows : D → List (List D)
 | .slc _ _ r=>r
 | _=>[]
def D.len (d : D) : Nat := d.rows.length
def D.addr (d : D) : Addr := match d.hd with | some (a,_)=>a | none=>⟨0,0,none⟩
def D.cellAt (d : D) (i j : Nat) : Option D := (d.rows[i]?).bind (·[j]?)
def D.cell (d : D) (i j : Nat) : D := (d.cellAt i j).getD (.slc none 0 [])
def D.getInt (d : D) (i j : Nat) : Int := match d.cellAt i j with | some (.int _ n)=>n | _=>0
def D.getBool (d : D) (i j : Nat) : Bool := match d.cellAt i j with | some (.bool b)=>b | _=>false
def D.getStr (d : D) (i j : Nat) : ByteArray := match d.cellAt i j with | some (.str s)=>s | _=>ByteArray.empty
def D.isNil (d : D) : Bool := d.hd.isNone
def D.IsSlc (d : D) : Prop := ∃ h s r,d = .slc h s r
inductive FT where
 | int (k : IntKind)
 | bool
 | str
 | slc

def D.HasCell (d : D) (i j : Nat) : FT → Prop
 | .int k=>∃ n,d.cellAt i j = some (.int k n)
 | .bool=>∃ b,d.cellAt i j = some (.bool b)
 | .str=>∃ s,d.cellAt i j = some (.str s)
 | .slc=>∃ h s r,d.cellAt i j = some (.slc h s r)

def D.HasCells (d : D) (i : Nat) : Nat → List FT → Prop
 | _,[]=>True
 | j,t :: r=>d.HasCell i j t ∧ D.HasCells d i (j + 1) r
abbrev HV := Nat → Nat → Option Value

inductive D.Ok (H : HV) : D → Prop
 | int (k : IntKind) (n : Int) : D.Ok H (.int k n)
 | bool (b : Bool) : D.Ok H (.bool b)
 | str (s : ByteArray) : D.Ok H (.str s)
 | nil (sz : Nat) : D.Ok H (.slc none sz [])
 | slc (a : Addr) (c sz : Nat) (rows : List (List D)) (hsp : rows ≠ [] → a.spot = none) (hc : rows.length ≤ c)
   (hlen : ∀ r,r ∈ rows → r.length = sz)
   (hcell : ∀ i j r x,rows[i]? = some r → r[j]? = some x → H a.block (a.off + i * sz + j) = some x.val)
   (hok : ∀ r,r ∈ rows → ∀ x,x ∈ r → D.Ok H x) : D.Ok H (.slc (some (a,c)) sz rows)

def HLe (H H' : HV) : Prop := ∀ b o v,H b o = some v → H' b o = some v
theorem HLe.refl (H : HV) : HLe H H := fun _ _ _ h=>h
theorem HLe.trans {A B C : HV} (h : HLe A B) (k : HLe B C) : HLe A C := fun b o v x=>k b o v (h b o v x)

theorem D.Ok.mono {H H' : HV} (hh : HLe H H') {d : D} (h : d.Ok H) : d.Ok H' := by
 induction h with
 | int k n=>exact .int k n
 | bool b=>exact .bool b
 | str s=>exact .str s
 | nil sz=>exact .nil sz
 | slc a c sz rows hsp hc hlen hcell hok ih=>exact .slc a c sz rows hsp hc hlen (fun i j r x h1 h2=>hh _ _ _ (hcell i j r x h1 h2)) ih
inductive SV where
 | int (k : IntKind) (n : Int)
 | bool (b : Bool)
 | lb (b : Bool)
 | str (s : ByteArray)
 | nils
 | dat (d : D)
 | vec (k : Nat)
 | ptr (k : Nat) (off : Nat)
 | elt (d : D) (i j : Nat)
 | velt (k sz i j : Nat)
 | view (k sz lo n : Nat)
 | nilp
 | agg (l : List SV)
 | tup (l : List SV)
 | fn (f : FuncId) (first captured : List SV)
 | nilf
 | mapp (k : Nat)
 | undef
 | junk (i : Nat)
 | raw (v : Value)
 | sl (k n : Nat)

instance : Inhabited SV := ⟨.undef⟩
structure Env where
 b : Nat → Nat
 v : Nat → Hd × Nat
 j : Nat → Value
def viewHd (h : Hd) (sz lo : Nat) : Hd := h.map fun x=>(if x.2 = lo then x.1 else x.1.add (lo * sz),x.2 - lo)

mutual
def SV.den (E : Env) : SV → Value
 | .int k n=>.int k n
 | .bool b=>.bool b
 | .lb b=>.bool b
 | .str s=>.string s
 | .nils=>.slice none 0 0
 | .dat d=>d.val
 | .vec k=>hval (E.v k).1 (E.v k).2
 | .ptr k off=>.pointer (some ⟨E.b k,off,none⟩)
 | .elt d i j=>.pointer (some ⟨d.addr.block,d.addr.off + i * d.sz + j,none⟩)
 | .velt k sz i j=>.pointer (some ⟨E.b k,i * sz + j,none⟩)
 | .view k sz lo n=>hval (viewHd (E.v k).1 sz lo) n
 | .nilp=>.pointer none
 | .agg l=>.agg (SV.denL E l).toArray
 | .tup l=>.tuple (SV.denL E l).toArray
 | .fn f first captured=>.func (.func f) (SV.denL E first).toArray (SV.denL E captured).toArray
 | .nilf=>.nilFunc
 | .mapp k=>.map (some (E.b k))
 | .sl k n=>.slice (some ⟨E.b k,0,none⟩) n n
 | .undef=>Go.undef
 | .junk i=>E.j i
 | .raw v=>v
def SV.denL (E : Env) : List SV → List Value
 | []=>[]
 | x :: r=>SV.den E x :: SV.denL E r
end

theorem SV.denL_eq (E : Env) : ∀ l : List SV,SV.denL E l = l.map (SV.den E)
 | []=>by simp [SV.denL]
 | x :: r=>by simp [SV.denL,SV.denL_eq E r]

mutual
def SV.has (k : Nat) : SV → Bool
 | .vec j=>j == k
 | .ptr j _=>j == k
 | .velt j _ _ _=>j == k
 | .view j _ _ _=>j == k
 | .mapp j=>j == k
 | .sl j _=>j == k
 | .agg l=>SV.hasL k l
 | .tup l=>SV.hasL k l
 | .fn _ a c=>SV.hasL k a || SV.hasL k c
 | _=>false
def SV.hasL (k : Nat) : List SV → Bool
 | []=>false
 | x :: r=>SV.has k x || SV.hasL k r
end

mutual
def SV.Ok (H : HV) : SV → Prop
 | .dat d=>d.Ok H ∧ d.IsSlc
 | .elt d _ _=>d.Ok H
 | .agg l=>SV.OkL H l
 | .tup l=>SV.OkL H l
 | .fn _ a c=>SV.OkL H a ∧ SV.OkL H c
 | _=>True
def SV.OkL (H : HV) : List SV → Prop
 | []=>True
 | x :: r=>SV.Ok H x ∧ SV.OkL H r
end

def Agree (k : Nat) (E E' : Env) : Prop := (∀ j,j ≠ k → E'.b j = E.b j ∧ E'.v j = E.v j) ∧ E'.j = E.j
theorem Agree.refl (k : Nat) (E : Env) : Agree k E E := ⟨fun _ _=>⟨rfl,rfl⟩,rfl⟩

mutual
theorem SV.den_agree {k : Nat} {E E' : Env} (h : Agree k E E') : ∀ x : SV,x.has k = false → x.den E' = x.den E
 | .int ..,_=>by simp [SV.den]
 | .bool _,_=>by simp [SV.den]
 | .lb _,_=>by simp [SV.den]
 | .str _,_=>by simp [SV.den]
 | .nils,_=>by simp [SV.den]
 | .dat _,_=>by simp [SV.den]
 | .vec j,hx=>by simp only [SV.has,beq_eq_false_iff_ne] at hx; simp only [SV.den,(h.1 j hx).2]
 | .ptr j _,hx=>by simp only [SV.has,beq_eq_false_iff_ne] at hx; simp only [SV.den,(h.1 j hx).1]
 | .elt ..,_=>by simp [SV.den]
 | .velt j _ _ _,hx=>by simp only [SV.has,beq_eq_false_iff_ne] at hx; simp only [SV.den,(h.1 j hx).1]
 | .view j _ _ _,hx=>by simp only [SV.has,beq_eq_false_iff_ne] at hx; simp only [SV.den,(h.1 j hx).2]
 | .nilp,_=>by simp [SV.den]
 | .agg l,hx=>by simp only [SV.has] at hx; simp only [SV.den,SV.denL_agree h l hx]
 | .tup l,hx=>by simp only [SV.has] at hx; simp only [SV.den,SV.denL_agree h l hx]
 | .fn _ a c,hx=>by
  simp only [SV.has,Bool.or_eq_false_iff] at hx
  simp only [SV.den,SV.denL_agree h a hx.1,SV.denL_agree h c hx.2]
 | .nilf,_=>by simp [SV.den]
 | .mapp j,hx=>by simp only [SV.has,beq_eq_false_iff_ne] at hx; simp only [SV.den,(h.1 j hx).1]
 | .sl j _,hx=>by simp only [SV.has,beq_eq_false_iff_ne] at hx; simp only [SV.den,(h.1 j hx).1]
 | .undef,_=>by simp [SV.den]
 | .junk _,_=>by simp [SV.den,h.2]
 | .raw _,_=>by simp [SV.den]
theorem SV.denL_agree {k : Nat} {E E' : Env} (h : Agree k E E') : ∀ l : List SV,SV.hasL k l = false → SV.denL E' l = SV.denL E l
 | [],_=>by simp [SV.denL]
 | x :: r,hx=>by
  simp only [SV.hasL,Bool.or_eq_false_iff] at hx
  simp only [SV.denL,SV.den_agree h x hx.1,SV.denL_agree h r hx.2]
end

mutual
theorem SV.Ok.mono {H H' : HV} (hh : HLe H H') : ∀ x : SV,x.Ok H → x.Ok H'
 | .dat _,h=>by simp only [SV.Ok] at h ⊢; exact ⟨h.1.mono hh,h.2⟩
 | .elt ..,h=>by simp only [SV.Ok] at h ⊢; exact h.mono hh
 | .agg l,h=>by simp only [SV.Ok] at h ⊢; exact SV.OkL.mono hh l h
 | .tup l,h=>by simp only [SV.Ok] at h ⊢; exact SV.OkL.mono hh l h
 | .fn _ a c,h=>by simp only [SV.Ok] at h ⊢; exact ⟨SV.OkL.mono hh a h.1,SV.OkL.mono hh c h.2⟩
 | .int ..,_=>by simp [SV.Ok]
 | .bool _,_=>by simp [SV.Ok]
 | .lb _,_=>by simp [SV.Ok]
 | .str _,_=>by simp [SV.Ok]
 | .nils,_=>by simp [SV.Ok]
 | .vec _,_=>by simp [SV.Ok]
 | .ptr ..,_=>by simp [SV.Ok]
 | .velt ..,_=>by simp [SV.Ok]
 | .view ..,_=>by simp [SV.Ok]
 | .nilp,_=>by simp [SV.Ok]
 | .nilf,_=>by simp [SV.Ok]
 | .mapp _,_=>by simp [SV.Ok]
 | .sl _ _,_=>by simp [SV.Ok]
 | .undef,_=>by simp [SV.Ok]
 | .junk _,_=>by simp [SV.Ok]
 | .raw _,_=>by simp [SV.Ok]
theorem SV.OkL.mono {H H' : HV} (hh : HLe H H') : ∀ l : List SV,SV.OkL H l → SV.OkL H' l
 | [],_=>by simp [SV.OkL]
 | x :: r,h=>by simp only [SV.OkL] at h ⊢; exact ⟨SV.Ok.mono hh x h.1,SV.OkL.mono hh r h.2⟩
end

theorem SV.OkL_iff {H : HV} : ∀ l : List SV,SV.OkL H l ↔ ∀ x,x ∈ l → x.Ok H
 | []=>by simp [SV.OkL]
 | x :: r=>by simp [SV.OkL,SV.OkL_iff r]

theorem SV.hasL_iff {k : Nat} : ∀ l : List SV,SV.hasL k l = false ↔ ∀ x,x ∈ l → x.has k = false
 | []=>by simp [SV.hasL]
 | x :: r=>by simp [SV.hasL,SV.hasL_iff r]

def cellSV (d : D) (i j : Nat) : FT → SV
 | .int k=>.int k (d.getInt i j)
 | .bool=>.bool (d.getBool i j)
 | .str=>.str (d.getStr i j)
 | .slc=>.dat (d.cell i j)

def cellsSV (d : D) (i : Nat) : Nat → List FT → List SV
 | _,[]=>[]
 | j,t :: r=>cellSV d i j t :: cellsSV d i (j + 1) r
def mapSV (ag : Bool) (ts : List FT) (d : D) (i : Nat) : SV :=
 match ag,ts with
 | false,[t]=>cellSV d i 1 t
 | _,_=>.agg (cellsSV d i 1 ts)
def mapEs (kk : IntKind) (ag : Bool) (ts : List FT) (d : D) : List (SV × SV) := (List.range d.len).map fun i=>(.int kk (d.getInt i 0),mapSV ag ts d i)

theorem den_cellSV (E E' : Env) (d : D) (i j : Nat) (t : FT) : (cellSV d i j t).den E' = (cellSV d i j t).den E := by cases t <;> simp [cellSV,SV.den]
theorem den_cellsSV (E E' : Env) (d : D) (i : Nat) : ∀ (j : Nat) (ts : List FT),SV.denL E' (cellsSV d i j ts) = SV.denL E (cellsSV d i j ts)
 | _,[]=>rfl
 | j,t :: r=>by simp only [cellsSV,SV.denL,den_cellSV E E' d i j t,den_cellsSV E E' d i (j + 1) r]
theorem den_mapSV (E E' : Env) (ag : Bool) (ts : List FT) (d : D) (i : Nat) : (mapSV ag ts d i).den E' = (mapSV ag ts d i).den E := by
 unfold mapSV; split
 ·exact den_cellSV ..
 ·simp only [SV.den,den_cellsSV E E' d i 1 ts]
theorem den_mapEs (E E' : Env) (kk : IntKind) (ag : Bool) (ts : List FT) (d : D) : (mapEs kk ag ts d).map (fun e=>(e.1.den E',e.2.den E')) = (mapEs kk ag ts d).map (fun e=>(e.1.den E,e.2.den E)) := by
 simp only [mapEs,List.map_map]
 apply List.map_congr_left
 intro i _
 simp only [Function.comp,SV.den,den_mapSV E E' ag ts d i]
inductive OBlk where
 | cells (t : TypeId) (cs : List SV)
 | arr (e : TypeId) (d : D)
 | pub (d : D)
 | map (es : List (SV × SV))
 | mapD (kk : IntKind) (ag : Bool) (ts : List FT) (d : D)

abbrev Mem := List (Nat × OBlk)

def OBlk.has (k : Nat) : OBlk → Bool
 | .cells _ cs=>SV.hasL k cs
 | .map es=>es.any fun e=>e.1.has k || e.2.has k
 | _=>false
def PIN : Nat := 100000

def Mem.has (k : Nat) (m : Mem) : Bool := Nat.ble PIN k || m.any fun e=>e.1 == k || e.2.has k

def Mem.get (m : Mem) (k : Nat) : Option OBlk :=
 match m with
 | []=>none
 | (j,o) :: r=>if j == k then some o else Mem.get r k

def Mem.set (m : Mem) (k : Nat) (o : OBlk) : Mem :=
 match m with
 | []=>[]
 | (j,p) :: r=>if j == k then (j,o) :: r else (j,p) :: Mem.set r k o

def Mem.del (m : Mem) (k : Nat) : Mem :=
 match m with
 | []=>[]
 | (j,p) :: r=>if j == k then r else (j,p) :: Mem.del r k
class CtxX where
 fx : Nat → Option Obj
 df : List Nat
 rd : Bool
 pn : Option (Nat → Nat)

instance ctxPlain : CtxX := ⟨fun _=>none,[],false,none⟩
structure Ctx where
 w0 : World
 H0 : HV
 [x : CtxX]
def Ctx.fin (C : Ctx) : Ctx := ⟨C.w0,C.H0⟩
def stillO : Obj → Bool
 | .cells ..=>false
 | .map ..=>false
 | _=>true

structure FixOk (X : CtxX) (n : Nat) (E : Env) (w : World) : Prop where
 fx : ∀ b o,X.fx b = some o → w.heap[b]? = some o ∧ stillO o = true
 mark : ∀ b,b ∈ X.df → n ≤ b ∧ X.fx b = some (.deferred (some []))
 nodup : X.df.Nodup
 pin : ∀ f,X.pn = some f → ∀ k,PIN ≤ k → E.b k = f k

theorem fixOk_plain (n : Nat) (E : Env) (w : World) : FixOk ctxPlain n E w := ⟨(fun _ _ h=>nomatch h),(fun _ h=>nomatch h),List.nodup_nil,(fun _ h=>nomatch h)⟩

theorem FixOk.keep {X : CtxX} {n : Nat} {E E' : Env} {w w' : World} (h : FixOk X n E w) (he : ∀ k,PIN ≤ k → E'.b k = E.b k) (hk : ∀ (b : Nat) (o : Obj),w.heap[b]? = some o → stillO o = true → w'.heap[b]? = some o) : FixOk X n E' w' :=
 ⟨fun b o hb=>⟨hk b o (h.fx b o hb).1 (h.fx b o hb).2,(h.fx b o hb).2⟩,h.mark,h.nodup,fun f hf k hk=>(he k hk).trans (h.pin f hf k hk)⟩

def flat (rows : List (List D)) : List Value := (rows.flatten).map D.val
def KeysOk (es : List (SV × SV)) : Prop := (∀ e,e ∈ es → ∃ k n,e.1 = .int k n) ∧ es.Pairwise fun x y=>x.1 ≠ y.1
def Stamps (en : Array MapEntry) (cl : Nat) : Prop := cl = en.size ∧ en.toList.map (·.born) = List.range en.size

def OOk (C : Ctx) (E : Env) (H : HV) (w : World) (k : Nat) : OBlk → Prop
 | .cells t cs=>C.w0.heap.size ≤ E.b k ∧ w.heap[E.b k]? = some (.cells (SV.denL E cs).toArray t (0,0)) ∧ (∀ o,H (E.b k) o = none) ∧ SV.OkL H cs
 | .arr e d=>∃ h sz rows,d = .slc h sz rows ∧ E.v k = (h,rows.length) ∧ w.ownsRow C.w0.heap.size e sz d.val rows.length (flat rows) ∧
   (∀ r,r ∈ rows → r.length = sz) ∧ (∀ r,r ∈ rows → ∀ x,x ∈ r → D.Ok H x) ∧
   (∀ a c,h = some (a,c) → a = ⟨E.b k,0,none⟩ ∧ ∀ o,H (E.b k) o = none)
 | .pub d=>(∃ h sz rows,d = .slc h sz rows ∧ E.v k = (h,rows.length)) ∧ d.Ok H
 | .map es=>C.w0.heap.size ≤ E.b k ∧ (∀ o,H (E.b k) o = none) ∧ (∃ entries clock,w.heap[E.b k]? = some (.map entries clock) ∧
   (entries.toList.map (fun e=>(e.key,e.val))).Perm (es.map (fun e=>(e.1.den E,e.2.den E))) ∧ Stamps entries clock) ∧ (∀ e,e ∈ es → e.1.Ok H ∧ e.2.Ok H) ∧ KeysOk es
 | .mapD kk ag ts d=>C.w0.heap.size ≤ E.b k ∧ (∀ o,H (E.b k) o = none) ∧ (∃ entries clock,w.heap[E.b k]? = some (.map entries clock) ∧
   (entries.toList.map (fun e=>(e.key,e.val))).Perm ((mapEs kk ag ts d).map (fun e=>(e.1.den E,e.2.den E))) ∧ Stamps entries clock) ∧ (∀ e,e ∈ mapEs kk ag ts d → e.1.Ok H ∧ e.2.Ok H) ∧ KeysOk (mapEs kk ag ts d)
def OBlk.Lies : OBlk → Prop
 | .cells ..=>True
 | .arr _ d=>d.hd ≠ none
 | .pub _=>False
 | .map _=>True
 | .mapD ..=>True

structure Good (C : Ctx) (m : Mem) (E : Env) (H : HV) (w : World) : Prop where
 below : RowKit.Below C.w0.heap.size C.w0 w
 ext : HLe C.H0 H
 fresh : ∀ b o v,H b o = some v → C.H0 b o = some v ∨ C.w0.heap.size ≤ b
 cell : ∀ b o v,H b o = some v → w.cell? ⟨b,o,none⟩ = some v
 own : ∀ k o,(k,o) ∈ m → OOk C E H w k o
 keys : m.Pairwise fun x y=>x.1 ≠ y.1
 apart : ∀ x y,x ∈ m → y ∈ m → x.1 ≠ y.1 → x.2.Lies → y.2.Lies → E.b x.1 ≠ E.b y.1
 fix : FixOk C.x C.w0.heap.size E w

theorem Mem.get_mem {m : Mem} {k : Nat} {o : OBlk} (h : m.get k = some o) : (k,o) ∈ m := by
 induction m with
 | nil=>simp [Mem.get] at h
 | cons x r ih =>
  obtain ⟨j,p⟩ := x
  simp only [Mem.get] at h
  split at h
  ·rename_i hj; simp at hj h; subst hj; subst h; simp
  ·exact List.mem_cons_of_mem _ (ih h)

end Sx
end
noncomputable section
namespace Sx
open Go RowKit

theorem cell_of_heap {w w' : World} {b o : Nat} (h : w'.heap[b]? = w.heap[b]?) : w'.cell? ⟨b,o,none⟩ = w.cell? ⟨b,o,none⟩ := by
 simp [World.cell?,h]

theorem lt_of_cell {w : World} {b o : Nat} {v : Value} (h : w.cell? ⟨b,o,none⟩ = some v) : b < w.heap.size :=
 World.block_lt_of_cell? w ⟨b,o,none⟩ h

theorem lt_of_some {w : World} {b : Nat} {o : Obj} (h : w.heap[b]? = some o) : b < w.heap.size :=
 (Array.getElem?_eq_some_iff.1 h).1
theorem OOk.lt {C : Ctx} {E : Env} {H : HV} {w : World} {k : Nat} {o : OBlk} (h : OOk C E H w k o) (hl : o.Lies) : E.b k < w.heap.size := by
 cases o with
 | cells t cs=>exact lt_of_some h.2.1
 | pub d=>exact hl.elim
 | map es=>obtain ⟨_,_,⟨en,cl,hh,_⟩,_⟩ := h; exact lt_of_some hh
 | mapD kk ag ts d=>obtain ⟨_,_,⟨en,cl,hh,_⟩,_⟩ := h; exact lt_of_some hh
 | arr e d =>
  obtain ⟨hd,sz,rows,rfl,hv,how,_,_,ha⟩ := h
  rcases how.2 with ⟨hn,_⟩ | ⟨g,cap,cur,hv2,_,hg,_⟩
  ·cases hd with
   | none=>exact absurd rfl hl
   | some x=>obtain ⟨a,c⟩ := x; simp [D.val,hval] at hn
  ·cases hd with
   | none=>exact absurd rfl hl
   | some x =>
    obtain ⟨a,c⟩ := x
    obtain ⟨rfl,_⟩ := ha a c rfl
    simp [D.val,hval] at hv2
    obtain ⟨rfl,_⟩ := hv2
    exact lt_of_some hg

theorem OOk.low {C : Ctx} {E : Env} {H : HV} {w : World} {k : Nat} {o : OBlk} (h : OOk C E H w k o) (hl : o.Lies) : C.w0.heap.size ≤ E.b k := by
 cases o with
 | cells t cs=>exact h.1
 | pub d=>exact hl.elim
 | map es=>exact h.1
 | mapD kk ag ts d=>exact h.1
 | arr e d =>
  obtain ⟨hd,sz,rows,rfl,hv,how,_,_,ha⟩ := h
  rcases how.2 with ⟨hn,_⟩ | ⟨g,cap,cur,hv2,hb,hg,_⟩
  ·cases hd with
   | none=>exact absurd rfl hl
   | some x=>obtain ⟨a,c⟩ := x; simp [D.val,hval] at hn
  ·cases hd with
   | none=>exact absurd rfl hl
   | some x =>
    obtain ⟨a,c⟩ := x
    obtain ⟨rfl,_⟩ := ha a c rfl
    simp [D.val,hval] at hv2
    obtain ⟨rfl,_⟩ := hv2
    exact hb

theorem OOk.noH {C : Ctx} {E : Env} {H : HV} {w : World} {k : Nat} {o : OBlk} (h : OOk C E H w k o) (hl : o.Lies) : ∀ x,H (E.b k) x = none := by
 cases o with
 | cells t cs=>exact h.2.2.1
 | pub d=>exact hl.elim
 | map es=>exact h.2.1
 | mapD kk ag ts d=>exact h.2.1
 | arr e d =>
  obtain ⟨hd,sz,rows,rfl,hv,how,_,_,ha⟩ := h
  cases hd with
  | none=>exact absurd rfl hl
  | some x=>obtain ⟨a,c⟩ := x; exact (ha a c rfl).2
theorem OOk.keep {C : Ctx} {E : Env} {H : HV} {w w' : World} {k : Nat} {o : OBlk} (h : OOk C E H w k o)
  (hb : o.Lies → w'.heap[E.b k]? = w.heap[E.b k]?) : OOk C E H w' k o := by
 cases o with
 | cells t cs=>exact ⟨h.1,by rw [hb trivial]; exact h.2.1,h.2.2⟩
 | pub d=>exact h
 | map es=>obtain ⟨h1,h2,⟨en,cl,hh,hm⟩,h3⟩ := h; exact ⟨h1,h2,⟨en,cl,by rw [hb trivial]; exact hh,hm⟩,h3⟩
 | mapD kk ag ts d=>obtain ⟨h1,h2,⟨en,cl,hh,hm⟩,h3⟩ := h; exact ⟨h1,h2,⟨en,cl,by rw [hb trivial]; exact hh,hm⟩,h3⟩
 | arr e d =>
  obtain ⟨hd,sz,rows,rfl,hv,how,hl,hk,ha⟩ := h
  refine ⟨hd,sz,rows,rfl,hv,⟨how.1,?_⟩,hl,hk,ha⟩
  rcases how.2 with hn | ⟨g,cap,cur,hv2,hlo,hg,rest⟩
  ·exact .inl hn
  ·refine .inr ⟨g,cap,cur,hv2,hlo,?_,rest⟩
   cases hd with
   | none=>simp [D.val,hval] at hv2
   | some x =>
    obtain ⟨a,c⟩ := x
    obtain ⟨rfl,_⟩ := ha a c rfl
    simp [D.val,hval] at hv2
    obtain ⟨rfl,_⟩ := hv2
    rw [hb (by simp [OBlk.Lies,D.hd])]; exact hg
theorem OOk.agree {C : Ctx} {E E' : Env} {H : HV} {w : World} {k j : Nat} {o : OBlk} (h : OOk C E H w k o) (ha : Agree j E E')
  (hkj : k ≠ j) (ho : o.has j = false) : OOk C E' H w k o := by
 have hk := ha.1 k hkj
 cases o with
 | cells t cs =>
  obtain ⟨h1,h2,h3,h4⟩ := h
  refine ⟨by rw [hk.1]; exact h1,?_,by rw [hk.1]; exact h3,h4⟩
  rw [hk.1,SV.denL_agree ha cs (by simpa [OBlk.has] using ho)]; exact h2
 | pub d=>exact ⟨by rw [hk.2]; exact h.1,h.2⟩
 | map es =>
  obtain ⟨h1,h2,⟨en,cl,hh,hm⟩,h3⟩ := h
  refine ⟨by rw [hk.1]; exact h1,by rw [hk.1]; exact h2,⟨en,cl,by rw [hk.1]; exact hh,?_,hm.2⟩,h3⟩
  refine hm.1.trans (List.Perm.of_eq ?_)
  apply List.map_congr_left
  intro e he
  simp only [OBlk.has,List.any_eq_false,Bool.or_eq_true,not_or,Bool.not_eq_true] at ho
  rw [SV.den_agree ha _ (ho e he).1,SV.den_agree ha _ (ho e he).2]
 | mapD kk ag ts d =>
  obtain ⟨h1,h2,⟨en,cl,hh,hm⟩,h3⟩ := h
  exact ⟨by rw [hk.1]; exact h1,by rw [hk.1]; exact h2,⟨en,cl,by rw [hk.1]; exact hh,by rw [den_mapEs E E']; exact hm⟩,h3⟩
 | arr e d =>
  obtain ⟨hd,sz,rows,rfl,hv,how,hl,hk2,hx⟩ := h
  exact ⟨hd,sz,rows,rfl,by rw [hk.2]; exact hv,how,hl,hk2,fun a c hc=>by
   obtain ⟨p,q⟩ := hx a c hc
   exact ⟨by rw [hk.1]; exact p,by rw [hk.1]; exact q⟩⟩
theorem OOk.mono {C : Ctx} {E : Env} {H H' : HV} {w : World} {k : Nat} {o : OBlk} (h : OOk C E H w k o) (hh : HLe H H')
  (hn : o.Lies → ∀ x,H' (E.b k) x = none) : OOk C E H' w k o := by
 cases o with
 | cells t cs=>exact ⟨h.1,h.2.1,hn trivial,SV.OkL.mono hh cs h.2.2.2⟩
 | pub d=>exact ⟨h.1,h.2.mono hh⟩
 | map es=>exact ⟨h.1,hn trivial,h.2.2.1,fun e he=>⟨SV.Ok.mono hh _ (h.2.2.2.1 e he).1,SV.Ok.mono hh _ (h.2.2.2.1 e he).2⟩,h.2.2.2.2⟩
 | mapD kk ag ts d=>exact ⟨h.1,hn trivial,h.2.2.1,fun e he=>⟨SV.Ok.mono hh _ (h.2.2.2.1 e he).1,SV.Ok.mono hh _ (h.2.2.2.1 e he).2⟩,h.2.2.2.2⟩
 | arr e d =>
  obtain ⟨hd,sz,rows,rfl,hv,how,hl,hk2,hx⟩ := h
  refine ⟨hd,sz,rows,rfl,hv,how,hl,fun r hr x hxr=>(hk2 r hr x hxr).mono hh,fun a c hc=>⟨(hx a c hc).1,?_⟩⟩
  exact hn (by simp [OBlk.Lies,D.hd,hc])

theorem Good.lt {C : Ctx} {m : Mem} {E : Env} {H : HV} {w : World} (g : Good C m E H w) {b o : Nat} {v : Value} (h : H b o = some v) : b < w.heap.size :=
 lt_of_cell (g.cell b o v h)

theorem Mem.has_lt {m : Mem} {k : Nat} (h : Mem.has k m = false) : k < PIN := by
 simp only [Mem.has,Bool.or_eq_false_iff] at h
 rcases Nat.lt_or_ge k PIN with h' | h'
 ·exact h'
 ·rw [Nat.ble_eq_true_of_le h'] at h; exact absurd h.1 (by decide)

theorem Mem.has_key {m : Mem} {k : Nat} (h : Mem.has k m = false) : ∀ x,x ∈ m → x.1 ≠ k ∧ x.2.has k = false := by
 intro x hx
 simp only [Mem.has,Bool.or_eq_false_iff] at h
 have h := h.2
 simp only [List.any_eq_false,Bool.or_eq_true,beq_iff_eq,not_or,Bool.not_eq_true] at h
 exact h x hx
theorem Good.same {C : Ctx} {m : Mem} {E : Env} {H : HV} {w w' : World} (g : Good C m E H w) (hh : w'.heap = w.heap) (ho : w'.os = w.os) (ht : w'.tape = w.tape) (hu : w'.output = w.output) : Good C m E H w' := by
 refine ⟨⟨ho.trans g.below.os,ht.trans g.below.tape,hu.trans g.below.output,by rw [hh]; exact g.below.size,fun k hk=>by rw [hh]; exact g.below.block k hk⟩,g.ext,g.fresh,fun b o v h=>?_,fun k o h=>(g.own k o h).keep (fun _=>by rw [hh]),g.keys,g.apart,g.fix.keep (fun _ _=>rfl) fun b o h _=>by rw [hh]; exact h⟩
 rw [cell_of_heap (w := w) (by rw [hh])]
 exact g.cell b o v h

theorem Good.drew {C : Ctx} {m : Mem} {E : Env} {H : HV} {w : World} (g : Good C m E H w) : Good C m E H w.drew := g.same rfl rfl rfl rfl
theorem Good.call {C : Ctx} {m : Mem} {E : Env} {H H' : HV} {w w' : World} (g : Good C m E H w) (hb : Below w.heap.size w w') (hh : HLe H H')
  (hf : ∀ b o v,H' b o = some v → H b o = some v ∨ w.heap.size ≤ b) (hc : ∀ b o v,H' b o = some v → w'.cell? ⟨b,o,none⟩ = some v) : Good C m E H' w' := by
 have hsz : C.w0.heap.size ≤ w.heap.size := g.below.size
 refine ⟨g.below.trans (hb.mono hsz),g.ext.trans hh,fun b o v h=>?_,hc,fun k o h=>?_,g.keys,g.apart,g.fix.keep (fun _ _=>rfl) fun b o h _=>by rw [hb.block b (lt_of_some h)]; exact h⟩
 ·rcases hf b o v h with h | h
  ·exact g.fresh b o v h
  ·exact .inr (Nat.le_trans hsz h)
 ·have h1 := g.own k o h
  refine (h1.keep (fun hl=>hb.block _ (h1.lt hl))).mono hh (fun hl x=>?_)
  cases hx : H' (E.b k) x with
  | none=>rfl
  | some v =>
   rcases hf _ _ _ hx with h2 | h2
   ·rw [h1.noH hl x] at h2; cases h2
   ·have := h1.lt hl; omega

def Env.set (E : Env) (k b : Nat) : Env := ⟨fun j=>if j = k then b else E.b j,E.v,E.j⟩
def Env.setV (E : Env) (k b : Nat) (v : Hd × Nat) : Env := ⟨fun j=>if j = k then b else E.b j,fun j=>if j = k then v else E.v j,E.j⟩
theorem Env.agree_set (E : Env) (k b : Nat) : Agree k E (E.set k b) := ⟨fun j hj=>by simp [Env.set,hj],rfl⟩
theorem Env.agree_setV (E : Env) (k b : Nat) (v : Hd × Nat) : Agree k E (E.setV k b v) := ⟨fun j hj=>by simp [Env.setV,hj],rfl⟩
theorem Good.cons {C : Ctx} {m : Mem} {E E' : Env} {H : HV} {w w' : World} {k : Nat} {o : OBlk} (g : Good C m E H w) (hk : Mem.has k m = false) (ha : Agree k E E')
  (hbel : Below w.heap.size w w')
  (ho : OOk C E' H w' k o) (hnew : o.Lies → ∀ j p,(j,p) ∈ m → p.Lies → E'.b k ≠ E.b j) : Good C ((k,o) :: m) E' H w' := by
 have hkeep := Mem.has_key hk
 refine ⟨g.below.trans (hbel.mono g.below.size),g.ext,g.fresh,fun b p v h=>?_,?_,?_,?_,g.fix.keep (fun j hj=>(ha.1 j (fun e=>by have := Mem.has_lt hk; omega)).1) fun b o h _=>by rw [hbel.block b (lt_of_some h)]; exact h⟩
 ·rw [cell_of_heap (w := w) (hbel.block b (g.lt h))]; exact g.cell b p v h
 ·intro j p hj
  rcases List.mem_cons.1 hj with h | h
  ·cases h; exact ho
  ·have h1 := g.own j p h
   have h2 := hkeep _ h
   exact (h1.keep (fun hl=>hbel.block _ (h1.lt hl))).agree ha h2.1 h2.2
 ·exact List.pairwise_cons.2 ⟨fun x hx=>(hkeep x hx).1.symm,g.keys⟩
 ·intro x y hx hy hne hlx hly
  rcases List.mem_cons.1 hx with rfl | hx <;> rcases List.mem_cons.1 hy with rfl | hy
  ·exact absurd rfl hne
  ·rw [(ha.1 y.1 (hkeep _ hy).1).1]; exact hnew hlx y.1 y.2 hy hly
  ·rw [(ha.1 x.1 (hkeep _ hx).1).1]; exact (hnew hly x.1 x.2 hx hlx).symm
  ·rw [(ha.1 x.1 (hkeep _ hx).1).1,(ha.1 y.1 (hkeep _ hy).1).1]
   exact g.apart x y hx hy hne hlx hly

theorem Good.noH_new {C : Ctx} {m : Mem} {E : Env} {H : HV} {w : World} (g : Good C m E H w) {b : Nat} (hb : w.heap.size ≤ b) (o : Nat) : H b o = none := by
 cases h : H b o with
 | none=>rfl
 | some v=>have := g.lt h; omega
theorem Good.alloc {C : Ctx} {m : Mem} {E : Env} {H : HV} {w : World} {k : Nat} (t : TypeId) (cs : List SV) (g : Good C m E H w) (hk : Mem.has k m = false)
  (hcs : SV.hasL k cs = false) (hok : SV.OkL H cs) :
  Good C ((k,.cells t cs) :: m) (E.set k w.heap.size) H (w.alloc (.cells (SV.denL E cs).toArray t)) := by
 have ha := E.agree_set k w.heap.size
 have hb : (E.set k w.heap.size).b k = w.heap.size := by simp [Env.set]
 refine g.cons hk ha ((Below.refl _ _).alloc (Nat.le_refl _) _) ⟨?_,?_,?_,hok⟩ (fun _ j p hj hl=>by rw [hb]; have := (g.own j p hj).lt hl; omega)
 ·rw [hb]; exact g.below.size
 ·rw [hb,SV.denL_agree ha cs hcs]; exact heap_alloc_new w _
 ·rw [hb]; exact g.noH_new (Nat.le_refl _)

theorem Mem.mem_set {m : Mem} {k : Nat} {o o' : OBlk} (hg : m.get k = some o) : ∀ j p,(j,p) ∈ m.set k o' → (j = k ∧ p = o') ∨ ((j,p) ∈ m ∧ (j ≠ k ∨ True)) := by
 induction m with
 | nil=>intro j p h; simp [Mem.set] at h
 | cons x r ih =>
  obtain ⟨i,q⟩ := x
  intro j p h
  simp only [Mem.set] at h
  simp only [Mem.get] at hg
  split at h
  ·rename_i hi
   simp at hi
   rcases List.mem_cons.1 h with h | h
   ·cases h; exact .inl ⟨hi,rfl⟩
   ·exact .inr ⟨List.mem_cons_of_mem _ h,.inr trivial⟩
  ·rename_i hi
   rw [if_neg hi] at hg
   rcases List.mem_cons.1 h with h | h
   ·cases h; exact .inr ⟨List.mem_cons_self,.inr trivial⟩
   ·rcases ih hg j p h with h | ⟨h,_⟩
    ·exact .inl h
    ·exact .inr ⟨List.mem_cons_of_mem _ h,.inr trivial⟩

theorem Mem.set_keys (m : Mem) (k : Nat) (o : OBlk) : (m.set k o).map (·.1) = m.map (·.1) := by
 induction m with
 | nil=>rfl
 | cons x r ih =>
  obtain ⟨i,q⟩ := x
  simp only [Mem.set]
  split <;> simp_all

theorem pairwise_keys (m : Mem) : (m.Pairwise fun x y=>x.1 ≠ y.1) ↔ (m.map (·.1)).Pairwise (· ≠ ·) := by
 rw [List.pairwise_map]

theorem Mem.unique {m : Mem} (hp : m.Pairwise fun x y=>x.1 ≠ y.1) {k : Nat} {o p : OBlk} (h : (k,o) ∈ m) (h' : (k,p) ∈ m) : o = p := by
 induction m with
 | nil=>cases h
 | cons x r ih =>
  rw [List.pairwise_cons] at hp
  rcases List.mem_cons.1 h with h1 | h1 <;> rcases List.mem_cons.1 h' with h2 | h2
  ·rw [← h1] at h2; cases h2; rfl
  ·exact absurd rfl (by have := hp.1 _ h2; rw [← h1] at this; exact this)
  ·exact absurd rfl (by have := hp.1 _ h1; rw [← h2] at this; exact this)
  ·exact ih hp.2 h1 h2
theorem Mem.set_spec {m : Mem} (hp : m.Pairwise fun x y=>x.1 ≠ y.1) {k : Nat} {o o' : OBlk} (hg : m.get k = some o) :
  ∀ j p,(j,p) ∈ m.set k o' → (j = k ∧ p = o') ∨ (j ≠ k ∧ (j,p) ∈ m) := by
 intro j p h
 rcases Mem.mem_set (o' := o') hg j p h with h1 | ⟨h1,_⟩
 ·exact .inl h1
 ·by_cases hj : j = k
  ·subst hj
   left
   refine ⟨rfl,?_⟩
   have hp' : (m.set j o').Pairwise fun x y=>x.1 ≠ y.1 := by rw [pairwise_keys,Mem.set_keys,← pairwise_keys]; exact hp
   have hin : (j,o') ∈ m.set j o' := by
    clear h h1 hp hp'
    induction m with
    | nil=>simp [Mem.get] at hg
    | cons x r ih =>
     obtain ⟨i,q⟩ := x
     simp only [Mem.set]
     simp only [Mem.get] at hg
     by_cases hi : (i == j) = true
     ·rw [if_pos hi]; simp at hi; subst hi; exact List.mem_cons_self
     ·rw [if_neg hi] at hg ⊢; exact List.mem_cons_of_mem _ (ih hg)
   exact Mem.unique hp' h hin
  ·exact .inr ⟨hj,h1⟩
theorem OOk.moves {C : Ctx} {E : Env} {H : HV} {w : World} {k : Nat} {o : OBlk} (h : OOk C E H w k o) (hl : o.Lies) {q : Obj} (hq : w.heap[E.b k]? = some q) : stillO q = false := by
 cases o with
 | cells t cs=>obtain ⟨_,h2,_⟩ := h; rw [h2] at hq; cases hq; rfl
 | pub d=>exact hl.elim
 | map es=>obtain ⟨_,_,⟨en,cl,h2,_⟩,_⟩ := h; rw [h2] at hq; cases hq; rfl
 | mapD kk ag ts d=>obtain ⟨_,_,⟨en,cl,h2,_⟩,_⟩ := h; rw [h2] at hq; cases hq; rfl
 | arr e d =>
  obtain ⟨hd,sz,rows,rfl,hv,how,_,_,hx⟩ := h
  simp only [OBlk.Lies,D.hd] at hl
  cases hd with
  | none=>exact absurd rfl hl
  | some ac =>
   obtain ⟨a,c⟩ := ac
   have ha := (hx a c rfl).1
   rcases how.2 with ⟨h3,_⟩ | ⟨g',cap,cur,h3,h4,h5,_⟩
   ·simp [D.val,hval] at h3
   ·simp only [D.val,hval,Value.slice.injEq,Option.some.injEq] at h3
    have : E.b k = g' := by have := h3.1; rw [ha] at this; exact congrArg Addr.block this
    rw [this,h5] at hq; cases hq; rfl
theorem Good.put {C : Ctx} {m : Mem} {E : Env} {H : HV} {w w' : World} {k : Nat} {o o' : OBlk} (g : Good C m E H w) (hg : m.get k = some o)
  (hb : ∀ j,j ≠ E.b k → w'.heap[j]? = w.heap[j]?) (hos : w'.os = w.os) (ht : w'.tape = w.tape) (hu : w'.output = w.output) (hs : w'.heap.size = w.heap.size)
  (hl : o.Lies) (ho : OOk C E H w' k o') : Good C (m.set k o') E H w' := by
 have hmem := Mem.get_mem hg
 have hok := g.own k o hmem
 have hlow := hok.low hl
 have hno := hok.noH hl
 have hspec := Mem.set_spec (o' := o') g.keys hg
 refine ⟨⟨hos.trans g.below.os,ht.trans g.below.tape,hu.trans g.below.output,by rw [hs]; exact g.below.size,fun j hj=>?_⟩,g.ext,g.fresh,fun b p v h=>?_,?_,?_,?_,g.fix.keep (fun _ _=>rfl) fun b o h hs=>?_⟩
 ·rw [hb j (by omega)]; exact g.below.block j hj
 ·have hne : b ≠ E.b k := fun e=>by rw [e,hno] at h; cases h
  rw [cell_of_heap (w := w) (hb b hne)]; exact g.cell b p v h
 ·intro j p h
  rcases hspec j p h with ⟨rfl,rfl⟩ | ⟨hj,hm⟩
  ·exact ho
  ·exact (g.own j p hm).keep (fun hl2=>hb _ (g.apart (j,p) (k,o) hm hmem hj hl2 hl))
 ·rw [pairwise_keys,Mem.set_keys,← pairwise_keys]; exact g.keys
 ·intro x y hx hy hne hlx hly
  rcases hspec x.1 x.2 hx with ⟨h1,h2⟩ | ⟨h1,h2⟩ <;> rcases hspec y.1 y.2 hy with ⟨h3,h4⟩ | ⟨h3,h4⟩
  ·exact absurd (h1.trans h3.symm) hne
  ·rw [h1]; exact g.apart (k,o) (y.1,y.2) hmem h4 (Ne.symm h3) hl hly
  ·rw [h3]; exact g.apart (x.1,x.2) (k,o) h2 hmem h1 hlx hl
  ·exact g.apart _ _ h2 h4 hne hlx hly
 ·have hne : b ≠ E.b k := fun e=>by rw [e] at h; rw [hok.moves hl h] at hs; cases hs
  rw [hb b hne]; exact h
structure Keeps (m : Mem) (E : Env) (H : HV) (w : World) (key : Nat) (m' : Mem) (E' : Env) (H' : HV) (w' : World) : Prop where
 size : w.heap.size ≤ w'.heap.size
 old : ∀ b,b < w.heap.size → (∀ k o,(k,o) ∈ m → o.Lies → E.b k ≠ b) → w'.heap[b]? = w.heap[b]?
 newH : ∀ b x v,H' b x = some v → H b x = some v ∨ w.heap.size ≤ b ∨ ∃ k o,(k,o) ∈ m ∧ o.Lies ∧ E.b k = b
 keys : ∀ k o,(k,o) ∈ m' → k = key ∨ ∃ o',(k,o') ∈ m
 blks : ∀ k o,(k,o) ∈ m' → o.Lies → w.heap.size ≤ E'.b k ∨ ∃ k2 o2,(k2,o2) ∈ m ∧ o2.Lies ∧ E'.b k = E.b k2
 str : w'.os = w.os ∧ w'.tape = w.tape ∧ w'.output = w.output

theorem Keeps.refl (m : Mem) (E : Env) (H : HV) (w : World) (key : Nat) : Keeps m E H w key m E H w :=
 ⟨Nat.le_refl _,fun _ _ _=>rfl,fun _ _ _ h=>.inl h,fun k o h=>.inr ⟨o,h⟩,fun k o h hl=>.inr ⟨k,o,h,hl,rfl⟩,rfl,rfl,rfl⟩
theorem Good.beside {C : Ctx} {m st m' : Mem} {E E' : Env} {H H' : HV} {w w' : World} {key : Nat} (g : Good C (m ++ st) E H w) (g' : Good C m' E' H' w') (ha : Agree key E E') (hh : HLe H H')
  (hk : Keeps m E H w key m' E' H' w') (hst : Mem.has key st = false) : Good C (m' ++ st) E' H' w' := by
 have hstk := Mem.has_key hst
 have hin : ∀ x,x ∈ st → x ∈ m ++ st := fun x hx=>List.mem_append_right _ hx
 have hinm : ∀ x,x ∈ m → x ∈ m ++ st := fun x hx=>List.mem_append_left _ hx
 have hcross : ∀ x y,x ∈ m → y ∈ st → x.1 ≠ y.1 := by
  intro x y hx hy
  have := g.keys
  rw [List.pairwise_append] at this
  exact this.2.2 x hx y hy
 have hsto : ∀ k o,(k,o) ∈ st → OOk C E' H' w' k o := by
  intro k o h
  have h1 := g.own k o (hin _ h)
  have h2 := hstk _ h
  refine ((h1.keep (fun hl=>hk.old _ (h1.lt hl) (fun k2 o2 hm hl2=>?_))).agree ha h2.1 h2.2).mono hh (fun hl x=>?_)
  ·exact g.apart (k2,o2) (k,o) (hinm _ hm) (hin _ h) (hcross _ _ hm h) hl2 hl
  ·rw [(ha.1 k h2.1).1]
   cases hx : H' (E.b k) x with
   | none=>rfl
   | some v =>
    rcases hk.newH _ _ _ hx with h3 | h3 | ⟨k2,o2,hm,hl2,he⟩
    ·rw [h1.noH hl x] at h3; cases h3
    ·have := h1.lt hl; omega
    ·exact absurd he (g.apart (k2,o2) (k,o) (hinm _ hm) (hin _ h) (hcross _ _ hm h) hl2 hl)
 have hlt : ∀ k o,(k,o) ∈ st → o.Lies → E.b k < w.heap.size := fun k o h hl=>(g.own k o (hin _ h)).lt hl
 refine ⟨g'.below,g'.ext,g'.fresh,g'.cell,fun k o h=>?_,?_,fun x y hx hy hne hlx hly=>?_,g'.fix⟩
 ·rcases List.mem_append.1 h with h | h
  ·exact g'.own k o h
  ·exact hsto k o h
 ·rw [List.pairwise_append]
  refine ⟨g'.keys,g.keys.sublist (List.sublist_append_right _ _),fun x hx y hy=>?_⟩
  rcases hk.keys x.1 x.2 hx with h | ⟨o',h⟩
  ·rw [h]; exact (hstk _ hy).1.symm
  ·exact hcross (x.1,o') y h hy
 ·have cross : ∀ a b,a ∈ m' → b ∈ st → a.2.Lies → b.2.Lies → E'.b a.1 ≠ E'.b b.1 := by
   intro a b haa hb hla hlb
   rw [(ha.1 b.1 (hstk _ hb).1).1]
   have hb1 := hlt b.1 b.2 hb hlb
   rcases hk.blks a.1 a.2 haa hla with h | ⟨k2,o2,hm,hl2,he⟩
   ·omega
   ·rw [he]; exact g.apart (k2,o2) b (hinm _ hm) (hin _ hb) (hcross _ _ hm hb) hl2 hlb
  rcases List.mem_append.1 hx with hx | hx <;> rcases List.mem_append.1 hy with hy | hy
  ·exact g'.apart x y hx hy hne hlx hly
  ·exact cross x y hx hy hlx hly
  ·exact (cross y x hy hx hly hlx).symm
  ·rw [(ha.1 x.1 (hstk _ hx).1).1,(ha.1 y.1 (hstk _ hy).1).1]
   exact g.apart x y (hin _ hx) (hin _ hy) hne hlx hly

theorem Mem.del_mem {m : Mem} {k : Nat} {x : Nat × OBlk} (h : x ∈ m.del k) : x ∈ m := by
 induction m with
 | nil=>cases h
 | cons y r ih =>
  obtain ⟨j,p⟩ := y
  simp only [Mem.del] at h
  split at h
  ·exact List.mem_cons_of_mem _ h
  ·rcases List.mem_cons.1 h with h | h
   ·rw [h]; exact List.mem_cons_self
   ·exact List.mem_cons_of_mem _ (ih h)

theorem Mem.del_sub (m : Mem) (k : Nat) : (m.del k).Sublist m := by
 induction m with
 | nil=>exact List.Sublist.slnil
 | cons y r ih =>
  obtain ⟨j,p⟩ := y
  simp only [Mem.del]
  split
  ·exact List.sublist_cons_self _ _
  ·exact ih.cons_cons _
theorem Good.other {C : Ctx} {m : Mem} {E : Env} {H : HV} {w w' : World} {r : Nat} (g : Good C m E H w)
  (hb : ∀ j,j ≠ r → w'.heap[j]? = w.heap[j]?) (hos : w'.os = w.os) (ht : w'.tape = w.tape) (hu : w'.output = w.output) (hs : w'.heap.size = w.heap.size)
  (hlow : C.w0.heap.size ≤ r) (hst : ∀ q,w.heap[r]? = some q → stillO q = false) (hH : ∀ o,H r o = none) (hap : ∀ j p,(j,p) ∈ m → p.Lies → E.b j ≠ r) : Good C m E H w' := by
 refine ⟨⟨hos.trans g.below.os,ht.trans g.below.tape,hu.trans g.below.output,by rw [hs]; exact g.below.size,fun j hj=>?_⟩,g.ext,g.fresh,fun b p v h=>?_,fun j p h=>?_,g.keys,g.apart,g.fix.keep (fun _ _=>rfl) fun b o h hs=>?_⟩
 ·rw [hb j (by omega)]; exact g.below.block j hj
 ·have hne : b ≠ r := fun e=>by rw [e,hH] at h; cases h
  rw [cell_of_heap (w := w) (hb b hne)]; exact g.cell b p v h
 ·exact (g.own j p h).keep (fun hl=>hb _ (hap j p h hl))
 ·have hne : b ≠ r := fun e=>by rw [e] at h; rw [hst _ h] at hs; cases hs
  rw [hb b hne]; exact h
theorem Good.sub {C : Ctx} {m m' : Mem} {E : Env} {H : HV} {w : World} (g : Good C m E H w) (hs : m'.Sublist m) : Good C m' E H w :=
 ⟨g.below,g.ext,g.fresh,g.cell,fun k o h=>g.own k o (hs.subset h),g.keys.sublist hs,fun x y hx hy=>g.apart x y (hs.subset hx) (hs.subset hy),g.fix⟩

end Sx
end
noncomputable section
namespace Sx
open Go RowKit

theorem flat_len {sz : Nat} : ∀ {rows : List (List D)},(∀ r,r ∈ rows → r.length = sz) → (flat rows).length = rows.length * sz
 | [],_=>by simp [flat]
 | r :: rest,h=>by
  have ih := flat_len (rows := rest) (sz := sz) (fun r hr=>h r (List.mem_cons_of_mem _ hr))
  have h1 := h r List.mem_cons_self
  simp only [flat,List.flatten_cons,List.map_append,List.length_append,List.length_map,List.length_cons] at ih ⊢
  rw [ih,h1,Nat.add_mul]; omega

theorem flat_append (a b : List (List D)) : flat (a ++ b) = flat a ++ flat b := by simp [flat]

theorem flat_get {sz : Nat} : ∀ {rows : List (List D)},(∀ r,r ∈ rows → r.length = sz) → ∀ (i j : Nat) (r : List D) (x : D),
  rows[i]? = some r → r[j]? = some x → (flat rows)[i * sz + j]? = some x.val
 | [],_,i,_,_,_,h,_=>by simp at h
 | r0 :: rest,h,0,j,r,x,h1,h2=>by
  simp at h1; subst h1
  have hj : j < r0.length := (List.getElem?_eq_some_iff.1 h2).1
  simp only [flat,List.flatten_cons,List.map_append,Nat.zero_mul,Nat.zero_add]
  rw [List.getElem?_append_left (by simpa using hj)]
  simp [h2]
 | r0 :: rest,h,i + 1,j,r,x,h1,h2=>by
  have ih := flat_get (rows := rest) (fun r hr=>h r (List.mem_cons_of_mem _ hr)) i j r x (by simpa using h1) h2
  have hl := h r0 List.mem_cons_self
  simp only [flat,List.flatten_cons,List.map_append] at ih ⊢
  rw [List.getElem?_append_right (by simp [hl,Nat.add_mul]; omega)]
  simp only [List.length_map,hl]
  rw [show (i + 1) * sz + j - sz = i * sz + j from by rw [Nat.add_mul]; omega]
  exact ih

theorem D.val_one (d : D) : d.val.oneCell' = true := by
 cases d with
 | slc h s r=>cases h <;> rfl
 | _=>rfl

theorem flat_one (rows : List (List D)) : ∀ u,u ∈ flat rows → u.oneCell' = true := by
 intro u hu
 simp only [flat,List.mem_map] at hu
 obtain ⟨d,_,rfl⟩ := hu
 exact d.val_one
def Reads (w : World) (v : Value) (sz : Nat) (rows : List (List D)) : Prop :=
  (∀ r,r ∈ rows → r.length = sz) ∧
  ((v = .slice none 0 0 ∧ rows = []) ∨
   ∃ a c,v = .slice (some a) rows.length c ∧ ∀ j u,(flat rows)[j]? = some u → w.cell? (a.add j) = some u)

theorem add_none {a : Addr} (h : a.spot = none) (n : Nat) : a.add n = ⟨a.block,a.off + n,none⟩ := by
 unfold Addr.add
 split
 ·rename_i h0; subst h0; cases a; simp_all
 ·simp

theorem get_flat {sz : Nat} {rows : List (List D)} (hl : ∀ r,r ∈ rows → r.length = sz) {j : Nat} {u : Value} (h : (flat rows)[j]? = some u) :
  ∃ i k r x,rows[i]? = some r ∧ r[k]? = some x ∧ j = i * sz + k ∧ u = x.val := by
 have hj : j < (flat rows).length := (List.getElem?_eq_some_iff.1 h).1
 rw [flat_len hl] at hj
 have hsz : 0 < sz := by rcases Nat.eq_zero_or_pos sz with h0 | h0; (subst h0; simp at hj); exact h0
 have hi : j / sz < rows.length := (Nat.div_lt_iff_lt_mul hsz).2 hj
 have hk : j % sz < sz := Nat.mod_lt _ hsz
 have hr : rows[j / sz]? = some rows[j / sz] := List.getElem?_eq_getElem hi
 have hrl : (rows[j / sz]).length = sz := hl _ (List.getElem_mem hi)
 have hx : (rows[j / sz])[j % sz]? = some ((rows[j / sz])[j % sz]'(by omega)) := List.getElem?_eq_getElem (by omega)
 have hd : j = j / sz * sz + j % sz := (Nat.div_add_mod' j sz).symm
 refine ⟨j / sz,j % sz,_,_,hr,hx,hd,?_⟩
 have := flat_get hl (j / sz) (j % sz) _ _ hr hx
 rw [← hd,h] at this
 exact Option.some.inj this

theorem reads_data {H : HV} {w : World} (hc : ∀ b o v,H b o = some v → w.cell? ⟨b,o,none⟩ = some v) {h : Hd} {sz : Nat} {rows : List (List D)}
  (hd : (D.slc h sz rows).Ok H) : Reads w (D.slc h sz rows).val sz rows := by
 cases hd with
 | nil=>exact ⟨by simp,.inl ⟨rfl,rfl⟩⟩
 | slc a c _ _ hsp hcap hlen hcell hok =>
  refine ⟨hlen,.inr ⟨a,c,rfl,fun j u hj=>?_⟩⟩
  obtain ⟨i,k,r,x,h1,h2,rfl,rfl⟩ := get_flat hlen hj
  rw [add_none (hsp fun h0=>by rw [h0] at h1; simp at h1)]
  have := hc _ _ _ (hcell i k r x h1 h2)
  rw [← Nat.add_assoc]; exact this

theorem reads_own {C : Ctx} {E : Env} {H : HV} {w : World} {k : Nat} {e : TypeId} {h : Hd} {sz : Nat} {rows : List (List D)}
  (ho : OOk C E H w k (.arr e (.slc h sz rows))) : Reads w (hval (E.v k).1 (E.v k).2) sz rows := by
 obtain ⟨h',sz',rows',heq,hv,how,hl,_,ha⟩ := ho
 cases heq
 refine ⟨hl,?_⟩
 rw [hv]
 rcases how.2 with ⟨hn,h0⟩ | ⟨g,cap,cur,hv2,_,hg,hnc,_,hcs,htake⟩
 ·left
  exact ⟨hn,List.eq_nil_of_length_eq_zero h0⟩
 ·right
  cases h with
  | none=>simp [D.val,hval] at hv2
  | some x =>
   obtain ⟨a,c⟩ := x
   obtain ⟨rfl,_⟩ := ha a c rfl
   refine ⟨_,c,rfl,fun j u hj=>?_⟩
   simp [D.val,hval] at hv2
   obtain ⟨rfl,rfl⟩ := hv2
   rw [add_none rfl]
   simp only [Nat.zero_add,World.cell?,hg,Option.isSome_none,Bool.false_eq_true,if_false]
   rw [← htake,List.getElem?_take] at hj
   split at hj
   ·simpa using hj
   ·cases hj
def HV.row (H : HV) (b : Nat) (vs : List Value) : HV := fun x o=>if x = b then vs[o]? else H x o

theorem HV.row_le {H : HV} {b : Nat} {vs : List Value} (h : ∀ o,H b o = none) : HLe H (H.row b vs) := by
 intro x o v hx
 unfold HV.row
 split
 ·rename_i e; subst e; rw [h] at hx; cases hx
 ·exact hx
theorem Good.publish {C : Ctx} {m : Mem} {E : Env} {H : HV} {w : World} {k : Nat} {e : TypeId} {d : D} (g : Good C m E H w) (hg : m.get k = some (.arr e d)) :
  ∃ H',HLe H H' ∧ Good C (m.set k (.pub d)) E H' w ∧ d.Ok H' ∧ (∀ b o v,H' b o = some v → H b o = some v ∨ ∃ o,(k,o) ∈ m ∧ o.Lies ∧ b = E.b k) := by
 have hmem := Mem.get_mem hg
 have hok := g.own k _ hmem
 have hspec := Mem.set_spec (o' := .pub d) g.keys hg
 obtain ⟨h,sz,rows,rfl,hv,how,hl,hk2,ha⟩ := id hok
 have finish : ∀ H',HLe H H' → (D.slc h sz rows).Ok H' → (∀ b o v,H' b o = some v → H b o = some v ∨ (C.w0.heap.size ≤ b ∧ b = E.b k ∧ h ≠ none)) →
   (∀ b o v,H' b o = some v → w.cell? ⟨b,o,none⟩ = some v) → Good C (m.set k (.pub (.slc h sz rows))) E H' w := by
  intro H' hle hd hf hc
  refine ⟨g.below,g.ext.trans hle,fun b o v hb=>?_,hc,fun j p hj=>?_,?_,fun x y hx hy hne hlx hly=>?_,g.fix⟩
  ·rcases hf b o v hb with h1 | h1
   ·exact g.fresh b o v h1
   ·exact .inr h1.1
  ·rcases hspec j p hj with ⟨rfl,rfl⟩ | ⟨hjk,hm⟩
   ·exact ⟨⟨h,sz,rows,rfl,hv⟩,hd⟩
   ·have h1 := g.own j p hm
    refine h1.mono hle (fun hlp x=>?_)
    cases hx : H' (E.b j) x with
    | none=>rfl
    | some v =>
     rcases hf _ _ _ hx with h2 | ⟨_,h2,h3⟩
     ·rw [h1.noH hlp x] at h2; cases h2
     ·exact absurd h2 (g.apart (j,p) (k,_) hm hmem hjk hlp (by simpa [OBlk.Lies,D.hd] using h3))
  ·rw [pairwise_keys,Mem.set_keys,← pairwise_keys]; exact g.keys
  ·rcases hspec x.1 x.2 hx with ⟨h1,h2⟩ | ⟨h1,h2⟩
   ·rw [h2] at hlx; exact hlx.elim
   ·rcases hspec y.1 y.2 hy with ⟨h3,h4⟩ | ⟨h3,h4⟩
    ·rw [h4] at hly; exact hly.elim
    ·exact g.apart _ _ h2 h4 hne hlx hly
 cases h with
 | none =>
  have h0 : rows = [] := by
   rcases how.2 with ⟨_,h0⟩ | ⟨g,cap,cur,hv2,_⟩
   ·exact List.eq_nil_of_length_eq_zero h0
   ·simp [D.val,hval] at hv2
  subst h0
  exact ⟨H,HLe.refl H,finish H (HLe.refl H) (.nil sz) (fun b o v h=>.inl h) g.cell,.nil sz,fun b o v h=>.inl h⟩
 | some x =>
  obtain ⟨a,c⟩ := x
  obtain ⟨rfl,hno⟩ := ha a c rfl
  rcases how.2 with ⟨hn,_⟩ | ⟨g',cap,cur,hv2,hlow,hgg,hnc,_,hcs,htake⟩
  ·simp [D.val,hval] at hn
  ·simp [D.val,hval] at hv2
   obtain ⟨rfl,rfl⟩ := hv2
   have hle : HLe H (H.row (E.b k) (flat rows)) := HV.row_le hno
   have hd : (D.slc (some (⟨E.b k,0,none⟩,c)) sz rows).Ok (H.row (E.b k) (flat rows)) := by
    refine .slc _ _ _ _ (fun _=>rfl) hnc hl (fun i j r x h1 h2=>?_) (fun r hr x hx=>(hk2 r hr x hx).mono hle)
    simp only [HV.row,if_true,Nat.zero_add]
    exact flat_get hl i j r x h1 h2
   have hc : ∀ b o v,H.row (E.b k) (flat rows) b o = some v → w.cell? ⟨b,o,none⟩ = some v := by
    intro b o v hb
    unfold HV.row at hb
    split at hb
    ·rename_i e; subst e
     simp only [World.cell?,hgg,Option.isSome_none,Bool.false_eq_true,if_false]
     rw [← htake,List.getElem?_take] at hb
     split at hb
     ·simpa using hb
     ·cases hb
    ·exact g.cell b o v hb
   have hf : ∀ b o v,H.row (E.b k) (flat rows) b o = some v → H b o = some v ∨ (C.w0.heap.size ≤ b ∧ b = E.b k ∧ (some ((⟨E.b k,0,none⟩ : Addr),c) : Hd) ≠ none) := by
    intro b o v hb
    unfold HV.row at hb
    split at hb
    ·rename_i e; exact .inr ⟨by rw [e]; exact hlow,e,by simp⟩
    ·exact .inl hb
   exact ⟨_,hle,finish _ hle hd hf hc,hd,fun b o v hb=>by
    rcases hf b o v hb with h1 | ⟨_,h1,_⟩
    ·exact .inl h1
    ·exact .inr ⟨_,hmem,by simp [OBlk.Lies,D.hd],h1⟩⟩
def D.app (d : D) (h : Hd) (sz : Nat) (rows : List (List D)) : D := .slc h sz (d.rows ++ rows)

section
variable {P : Program}
theorem Good.append {C : Ctx} {m : Mem} {E : Env} {H : HV} {w : World} (t ty e : TypeId) (i : TypeInfo) (z : Value)
  (ht : P.underlying t = some (.slice e)) (hi : P.info? e = some i) (hz : i.zero = some z) (hzs : z.cells.size = i.size)
  (g : Good C m E H w) (v : Value) (old : List (List D)) (hown : w.ownsRow C.w0.heap.size e i.size v old.length (flat old))
  (hol : ∀ r,r ∈ old → r.length = i.size) (hoo : ∀ r,r ∈ old → ∀ x,x ∈ r → D.Ok H x)
  (hoH : ∀ b,v.ownBlock = some b → (∀ o,H b o = none) ∧ ∀ j p,(j,p) ∈ m → p.Lies → E.b j ≠ b)
  (x : Value) (rows : List (List D)) (hx : Reads w x i.size rows) (hro : ∀ r,r ∈ rows → ∀ x,x ∈ r → D.Ok H x)
  (hb : (old.length + rows.length) * i.bytes ≤ 140737488355328) (hm : old.length + rows.length ≤ maxLen)
  (k : Nat) (hk : Mem.has k m = false) :
  ∃ w' h b,(Builtin.append_ #[t,t] ty #[v,x]).run P w = .ok (hval h (old.length + rows.length)) w' ∧
   Good C ((k,.arr e (.slc h i.size (old ++ rows))) :: m) (E.setV k b (h,old.length + rows.length)) H w' ∧
   w.heap.size ≤ w'.heap.size ∧ (∀ j,j < w.heap.size → v.ownBlock ≠ some j → w'.heap[j]? = w.heap[j]?) ∧ (h ≠ none → w.heap.size ≤ b ∨ v.ownBlock = some b) ∧ (w'.os = w.os ∧ w'.tape = w.tape ∧ w'.output = w.output) := by
 have hnew : ∀ o : Obj,w.heap.size ≤ (w.drew.alloc o).heap.size ∧ (∀ j,j < w.heap.size → v.ownBlock ≠ some j → (w.drew.alloc o).heap[j]? = w.heap[j]?) := fun o =>
  ⟨by simp,fun j hj _=>heap_alloc_old w.drew o hj⟩
 have hall : ∀ r,r ∈ old ++ rows → r.length = i.size := fun r hr=>by
  rcases List.mem_append.1 hr with h | h
  ·exact hol r h
  ·exact hx.1 r h
 have hallo : ∀ r,r ∈ old ++ rows → ∀ x,x ∈ r → D.Ok H x := fun r hr=>by
  rcases List.mem_append.1 hr with h | h
  ·exact hoo r h
  ·exact hro r h
 have hlen : (flat (old ++ rows)).length = (old.length + rows.length) * i.size := by rw [flat_len hall]; simp
 -- a new block
 have fresh : ∀ (cap : Nat) (cur : Array Value),old.length + rows.length ≤ cap → cap ≤ maxLen → cur.size = cap * i.size →
   cur.toList.take ((old.length + rows.length) * i.size) = flat (old ++ rows) →
   Good C ((k,.arr e (.slc (some (⟨w.heap.size,0,none⟩,cap)) i.size (old ++ rows))) :: m) (E.setV k w.heap.size (some (⟨w.heap.size,0,none⟩,cap),old.length + rows.length)) H (w.drew.alloc (.cells cur e)) := by
  intro cap cur h1 h2 h3 h4
  have hbk : (E.setV k w.heap.size (some (⟨w.heap.size,0,none⟩,cap),old.length + rows.length)).b k = w.heap.size := by simp [Env.setV]
  have hvk : (E.setV k w.heap.size (some (⟨w.heap.size,0,none⟩,cap),old.length + rows.length)).v k = (some (⟨w.heap.size,0,none⟩,cap),old.length + rows.length) := by simp [Env.setV]
  refine Good.cons g hk (E.agree_setV _ _ _) (((Below.refl _ _).drew).alloc (Nat.le_refl _) _) ⟨_,_,_,rfl,by rw [hvk]; simp,⟨by simp [hlen],.inr ⟨w.heap.size,cap,cur,by simp [D.val,hval],g.below.size,heap_alloc_new w.drew _,by simpa using h1,h2,h3,by simpa using h4⟩⟩,hall,hallo,?_⟩ ?_
  ·intro a c hc
   cases hc
   rw [hbk]
   exact ⟨rfl,g.noH_new (Nat.le_refl _)⟩
  ·intro _ j p hj hl
   rw [hbk]
   have := (g.own j p hj).lt hl
   omega
 rcases hx.2 with ⟨rfl,rfl⟩ | ⟨a,c,rfl,hnews⟩
 ·-- nothing is appended
  have hr0 : (Builtin.append_ #[t,t] ty #[v,.slice none 0 0]).run P w = .ok v w := by
   rcases hown.2 with ⟨rfl,h0⟩ | ⟨gg,cap,cur,rfl,_,_,hnc,_⟩
   ·simp [Builtin.append_,run_underlying ht,Go.sizeOf,typeInfo,hi,Builtin.lenOf,Builtin.firstCells]
   ·simp [Builtin.append_,run_underlying ht,Go.sizeOf,typeInfo,hi,Builtin.lenOf,Builtin.firstCells,hnc,storeCells]
  rcases hown.2 with ⟨rfl,h0⟩ | ⟨gg,cap,cur,rfl,hlow,hgg,hnc,hcm,hcs,htake⟩
  ·have : old = [] := List.eq_nil_of_length_eq_zero h0
   subst this
   refine ⟨w,none,0,hr0,Good.cons g hk (E.agree_setV _ _ _) (Below.refl _ _) ⟨_,_,_,rfl,by simp [Env.setV],⟨by simp [flat],.inl ⟨rfl,rfl⟩⟩,by simp,by simp,by simp⟩ (fun hl=>by simp [OBlk.Lies,D.hd] at hl),Nat.le_refl _,fun _ _ _=>rfl,fun h=>absurd rfl h,rfl,rfl,rfl⟩
  ·refine ⟨w,some (⟨gg,0,none⟩,cap),gg,hr0,Good.cons g hk (E.agree_setV _ _ _) (Below.refl _ _) ⟨_,_,_,rfl,by simp [Env.setV],⟨by simpa using hlen,.inr ⟨gg,cap,cur,by simp [D.val,hval],hlow,hgg,by simpa using hnc,hcm,hcs,by simpa using htake⟩⟩,hall,hallo,?_⟩ ?_,Nat.le_refl _,fun _ _ _=>rfl,fun _=>.inr rfl,rfl,rfl,rfl⟩
   ·intro a c hc
    cases hc
    simp only [Env.setV,if_true]
    exact ⟨trivial,(hoH gg rfl).1⟩
   ·intro _ j p hj hl
    simp only [Env.setV,if_true]
    exact ((hoH gg rfl).2 j p hj hl).symm
 ·have hnl : (flat rows).length = rows.length * i.size := flat_len hx.1
  have hol' : (flat old).length = old.length * i.size := flat_len hol
  have h63 : old.length + rows.length ≤ 9223372036854775807 := by simp only [maxLen] at hm; omega
  rcases hown.2 with ⟨rfl,h0⟩ | ⟨gg,cap,cur,rfl,hlow,hgg,hnc,hcm,hcs,htake⟩
  ·have : old = [] := List.eq_nil_of_length_eq_zero h0
   subst this
   simp only [List.length_nil,Nat.zero_add] at hb hm h63 fresh ⊢
   by_cases hr : rows.length = 0
   ·have : rows = [] := List.eq_nil_of_length_eq_zero hr
    subst this
    refine ⟨w,none,0,?_,Good.cons g hk (E.agree_setV _ _ _) (Below.refl _ _) ⟨_,_,_,rfl,by simp [Env.setV],⟨by simp [flat],.inl ⟨rfl,rfl⟩⟩,by simp,by simp,by simp⟩ (fun hl=>by simp [OBlk.Lies,D.hd] at hl),Nat.le_refl _,fun _ _ _=>rfl,fun h=>absurd rfl h,rfl,rfl,rfl⟩
    simp [Builtin.append_,run_underlying ht,Go.sizeOf,typeInfo,hi,Builtin.lenOf,Builtin.firstCells,loadCells,loadCellsFrom,hval]
   ·have hrun := run_append_nil (P := P) w t ty e i z ht hi hz a rows.length c (flat rows) hnl hnews (by omega) (by omega) (by omega)
    refine ⟨_,some (⟨w.heap.size,0,none⟩,grownCap w rows.length 0 e),w.heap.size,hrun,?_,(hnew _).1,(hnew _).2,fun _=>.inl (Nat.le_refl _),rfl,rfl,rfl⟩
    have hge := grownCap_ge w rows.length 0 e
    refine fresh _ _ hge (grownCap_le_maxLen w _ _ _ hm) ?_ ?_
    ·simp only [Array.size_append,List.size_toArray,size_zeroCells,hzs,hnl,← Nat.add_mul]
     congr 1; omega
    ·simp only [Array.toList_append,← hnl,List.nil_append]
     exact List.take_left
  ·by_cases hroom : old.length + rows.length ≤ cap
   ·have hfit : old.length * i.size + (flat rows).length ≤ cur.size := by rw [hnl,hcs,← Nat.add_mul]; exact Nat.mul_le_mul_right _ hroom
    have hrun := run_append_room (P := P) w t ty e i ht hi gg old.length cap cur hgg a rows.length c (flat rows) hnl hnews (flat_one rows) hroom hfit
    refine ⟨_,some (⟨gg,0,none⟩,cap),gg,hrun,?_,by simp [World.setRow],fun j hj hne=>setRow_other w gg j _ (fun e=>hne (by simp [Value.ownBlock,e])),fun _=>.inr rfl,rfl,rfl,rfl⟩
    have g1 : Good C m E H (w.setRow gg (cur.toList.take (old.length * i.size) ++ flat rows ++ cur.toList.drop (old.length * i.size + (flat rows).length)).toArray) :=
     g.other (r := gg) (fun j hj=>setRow_other w gg j _ hj) rfl rfl rfl (by simp [World.setRow]) hlow (fun q hq=>by rw [hgg] at hq; cases hq; rfl) (hoH gg rfl).1 (hoH gg rfl).2
    refine Good.cons g1 hk (E.agree_setV _ _ _) (Below.refl _ _) ⟨_,_,_,rfl,by simp [Env.setV],⟨by simpa using hlen,.inr ⟨gg,cap,_,by simp [D.val,hval],hlow,setRow_heap w gg cur _ e _ hgg,by simpa using hroom,hcm,?_,?_⟩⟩,hall,hallo,?_⟩ ?_
    ·simp only [List.size_toArray,List.length_append,List.length_take,List.length_drop,Array.length_toList]
     omega
    ·simp only [htake,List.length_append]
     rw [← hlen,flat_append,List.take_left]
    ·intro a c hc
     cases hc
     simp only [Env.setV,if_true]
     exact ⟨trivial,(hoH gg rfl).1⟩
    ·intro _ j p hj hl
     simp only [Env.setV,if_true]
     exact ((hoH gg rfl).2 j p hj hl).symm
   ·have holds : ∀ j u,(flat old)[j]? = some u → w.cell? ((⟨gg,0,none⟩ : Addr).add j) = some u := hown.cells (g := gg) rfl
    have hrun := run_append_grow (P := P) w t ty e i z ht hi hz ⟨gg,0,none⟩ old.length cap (flat old) hol' holds a rows.length c (flat rows) hnl hnews (by omega) (by omega) (growslice_fits (by omega) hb)
    refine ⟨_,some (⟨w.heap.size,0,none⟩,grownCap w (old.length + rows.length) cap e),w.heap.size,hrun,?_,(hnew _).1,(hnew _).2,fun _=>.inl (Nat.le_refl _),rfl,rfl,rfl⟩
    have hge := grownCap_ge w (old.length + rows.length) cap e
    refine fresh _ _ hge (grownCap_le_maxLen w _ _ _ hm) ?_ ?_
    ·simp only [Array.size_append,List.size_toArray,size_zeroCells,hzs,hnl,hol',← Nat.add_mul]
     congr 1; omega
    ·simp only [Array.toList_append,flat_append]
     rw [← flat_append,← hlen,flat_append]
     exact List.take_left
end
end Sx
end
noncomputable section
namespace Sx
open Go RowKit
inductive OpR where
 | val (ps : List Prop) (v : SV) (m : Mem)
 | all (ps : List Prop) (f : (Nat → D) → SV × Mem)
 | bad

def ofVal1 : Value → SV
 | .int k n=>.int k n
 | .bool b=>.lb b
 | .string s=>.str s
 | .slice none 0 0=>.nils
 | .pointer none=>.nilp
 | .nilFunc=>.nilf
 | v=>.raw v

def ofVal : Value → SV
 | .agg cs=>.agg (cs.toList.map ofVal1)
 | v=>ofVal1 v

theorem den_ofVal1 (E : Env) (v : Value) : (ofVal1 v).den E = v := by
 unfold ofVal1
 split <;> simp [SV.den]

theorem den_ofVal (E : Env) (v : Value) : (ofVal v).den E = v := by
 unfold ofVal
 split
 ·rename_i cs
  simp only [SV.den,SV.denL_eq,List.map_map]
  have : (SV.den E ∘ ofVal1) = id := by funext x; exact den_ofVal1 E x
  rw [this]; simp
 ·exact den_ofVal1 E _

theorem ok_ofVal1 (H : HV) (v : Value) : (ofVal1 v).Ok H := by
 unfold ofVal1
 split <;> simp [SV.Ok]

theorem ok_ofVal (H : HV) (v : Value) : (ofVal v).Ok H := by
 unfold ofVal
 split
 ·simp only [SV.Ok,SV.OkL_iff]
  intro x hx
  obtain ⟨y,_,rfl⟩ := List.mem_map.1 hx
  exact ok_ofVal1 H y
 ·exact ok_ofVal1 H _
def evS (tmps : List SV) : Operand → SV
 | .tmp t=>tmps.getD t .undef
 | .const v=>ofVal v
 | .global g=>.raw (.pointer (some ⟨g,0,none⟩))
 | .func f=>.fn f [] []

theorem den_evS (E : Env) (tmps : List SV) (ds : List Deferred) (x : Operand) :
  (⟨(SV.denL E tmps).toArray,ds⟩ : Act).eval x = (evS tmps x).den E := by
 cases x with
 | tmp t =>
  simp only [Act.eval,evS,SV.denL_eq,List.getD_eq_getElem?_getD]
  cases h : tmps[t]? <;> simp [h,SV.den]
 | const v=>simp only [Act.eval,evS,den_ofVal]
 | global g=>simp [Act.eval,evS,SV.den]
 | func f=>simp [Act.eval,evS,SV.den,SV.denL]

theorem ok_evS {H : HV} {tmps : List SV} (h : SV.OkL H tmps) (x : Operand) : (evS tmps x).Ok H := by
 cases x with
 | tmp t =>
  simp only [evS,List.getD_eq_getElem?_getD]
  cases ht : tmps[t]? with
  | none=>simp [SV.Ok]
  | some v=>exact (SV.OkL_iff tmps).1 h v (List.mem_of_getElem? ht)
 | const v=>exact ok_ofVal H v
 | global g=>simp [evS,SV.Ok]
 | func f=>simp [evS,SV.Ok,SV.OkL]
def SV.cells? : SV → Option (List SV)
 | .agg l=>some l
 | .raw _=>none
 | .undef=>none
 | .junk _=>none
 | .tup _=>none
 | v=>some [v]

def SV.one : SV → Bool
 | .agg _=>false
 | .raw _=>false
 | .undef=>false
 | .junk _=>false
 | .tup _=>false
 | _=>true

theorem SV.one_den (E : Env) {v : SV} (h : v.one = true) : (v.den E).oneCell' = true := by
 cases v <;> simp [SV.one] at h <;> simp only [SV.den]
 case dat d=>exact d.val_one
 case vec k=>cases (E.v k).1 <;> rfl
 case view k sz lo n=>cases viewHd (E.v k).1 sz lo <;> rfl
 all_goals rfl

theorem SV.cells?_den (E : Env) {v : SV} {l : List SV} (h : v.cells? = some l) : (v.den E).cells = (SV.denL E l).toArray := by
 cases v <;> simp [SV.cells?] at h <;> subst h <;> simp only [SV.den,SV.denL,Value.cells]
 case dat d=>cases d with
  | slc hd s r=>cases hd <;> rfl
  | _=>rfl
 case vec k=>cases (E.v k).1 <;> rfl
 case view k sz lo n=>cases viewHd (E.v k).1 sz lo <;> rfl

theorem SV.cells?_ok {H : HV} {v : SV} {l : List SV} (h : v.cells? = some l) (hv : v.Ok H) : SV.OkL H l := by
 cases v <;> simp [SV.cells?] at h <;> subst h <;> simp_all [SV.Ok,SV.OkL]
def dataOf (m : Mem) : SV → Option D
 | .nils=>some (.slc none 0 [])
 | .dat d=>some d
 | .vec k=>match m.get k with
  | some (.arr _ d)=>some d
  | some (.pub d)=>some d
  | _=>none
 | _=>none
def shut (m : Mem) : SV → Bool
 | .nils=>true
 | .dat _=>true
 | .vec k=>match m.get k with
  | some (.pub _)=>true
  | _=>false
 | _=>false

theorem dataOf_slc {C : Ctx} {m : Mem} {E : Env} {H : HV} {w : World} (g : Good C m E H w) {v : SV} (hv : v.Ok H) {d : D} (h : dataOf m v = some d) : d.IsSlc := by
 cases v with
 | nils=>simp only [dataOf,Option.some.injEq] at h; exact ⟨_,_,_,h.symm⟩
 | dat d'=>simp only [dataOf,Option.some.injEq] at h; subst h; exact hv.2
 | vec k =>
  simp only [dataOf] at h
  cases hk : m.get k with
  | none=>simp [hk] at h
  | some o =>
   have ho := g.own k o (Mem.get_mem hk)
   cases o with
   | arr e d'=>simp only [hk,Option.some.injEq] at h; subst h; obtain ⟨a,b,c,e,_⟩ := ho; exact ⟨a,b,c,e⟩
   | pub d'=>simp only [hk,Option.some.injEq] at h; subst h; obtain ⟨⟨a,b,c,e,_⟩,_⟩ := ho; exact ⟨a,b,c,e⟩
   | cells t cs=>simp [hk] at h
   | map es=>simp [hk] at h
   | mapD kk ag ts d=>simp [hk] at h
 | _=>simp [dataOf] at h

theorem dataOf_spec {C : Ctx} {m : Mem} {E : Env} {H : HV} {w : World} (g : Good C m E H w) {v : SV} (hv : v.Ok H) {d : D} (h : dataOf m v = some d) :
  v.den E = hval d.hd d.len ∧ Reads w (v.den E) d.sz d.rows ∧ (∀ r,r ∈ d.rows → ∀ x,x ∈ r → D.Ok H x) ∧ (shut m v = true → d.Ok H) := by
 obtain ⟨hd,sz,rows,rfl⟩ := dataOf_slc g hv h
 have fromOk : (D.slc hd sz rows).Ok H → ∀ r,r ∈ rows → ∀ x,x ∈ r → D.Ok H x := by
  intro h; cases h with
  | nil=>simp
  | slc a c _ _ _ _ _ _ hok=>exact hok
 cases v with
 | nils =>
  simp only [dataOf,Option.some.injEq] at h
  cases h
  exact ⟨rfl,⟨by simp [D.rows],.inl ⟨rfl,rfl⟩⟩,by simp [D.rows],fun _=>.nil 0⟩
 | dat d' =>
  simp only [dataOf,Option.some.injEq] at h
  subst h
  exact ⟨rfl,reads_data g.cell hv.1,fromOk hv.1,fun _=>hv.1⟩
 | vec k =>
  simp only [dataOf] at h
  cases hk : m.get k with
  | none=>simp [hk] at h
  | some o =>
   have ho := g.own k o (Mem.get_mem hk)
   cases o with
   | arr e d' =>
    simp only [hk,Option.some.injEq] at h
    subst h
    refine ⟨?_,reads_own ho,?_,?_⟩
    ·obtain ⟨h',sz',rows',heq,hv',_⟩ := ho
     cases heq
     simp only [SV.den,hv']; rfl
    ·obtain ⟨h',sz',rows',heq,hv',_,_,hk2,_⟩ := ho
     cases heq; exact hk2
    ·simp [shut,hk]
   | pub d' =>
    simp only [hk,Option.some.injEq] at h
    subst h
    obtain ⟨⟨h',sz',rows',heq,hv'⟩,hok⟩ := ho
    cases heq
    have e : SV.den E (.vec k) = (D.slc hd sz rows).val := by simp only [SV.den,hv']; rfl
    exact ⟨by rw [e]; rfl,by rw [e]; exact reads_data g.cell hok,fromOk hok,fun _=>hok⟩
   | cells t cs=>simp [hk] at h
   | map es=>simp [hk] at h
   | mapD kk ag ts d=>simp [hk] at h
 | _=>simp [dataOf] at h

section
variable (P : Program)

def sizeT (t : TypeId) : Option Nat := (P.info? t).map (·.size)
def aggT (t : TypeId) : Option Bool := match P.underlying t with
 | some (.struct _)=>some true
 | some (.array _ _)=>some true
 | some _=>some false
 | none=>none
def ftOf : Nat → TypeId → Option (List FT)
 | 0,_=>none
 | n + 1,t =>
  match P.underlying t with
  | some (.int k)=>some [.int k]
  | some .bool=>some [.bool]
  | some .string=>some [.str]
  | some (.slice _)=>some [.slc]
  | some (.struct fs)=>fs.toList.foldr (fun f acc=>match ftOf n f.type,acc with | some a,some b=>some (a ++ b) | _,_=>none) (some [])
  | some (.array len e)=>match ftOf n e with
   | some a=>some ((List.replicate len a).flatten)
   | none=>none
  | _=>none
end

theorem cellSV_spec {H : HV} {d : D} (hr : ∀ r,r ∈ d.rows → ∀ x,x ∈ r → D.Ok H x) {i j : Nat} {t : FT} (h : d.HasCell i j t) (E : Env) :
  ∃ x,d.cellAt i j = some x ∧ (cellSV d i j t).den E = x.val ∧ (cellSV d i j t).Ok H := by
 have mem : ∀ x,d.cellAt i j = some x → D.Ok H x := by
  intro x hx
  unfold D.cellAt at hx
  cases h1 : d.rows[i]? with
  | none=>simp [h1] at hx
  | some r =>
   simp [h1] at hx
   exact hr r (List.mem_of_getElem? h1) x (List.mem_of_getElem? hx)
 cases t with
 | int k=>obtain ⟨n,hn⟩ := h; exact ⟨_,hn,by simp [cellSV,D.getInt,hn,SV.den,D.val],by simp [cellSV,SV.Ok]⟩
 | bool=>obtain ⟨n,hn⟩ := h; exact ⟨_,hn,by simp [cellSV,D.getBool,hn,SV.den,D.val],by simp [cellSV,SV.Ok]⟩
 | str=>obtain ⟨n,hn⟩ := h; exact ⟨_,hn,by simp [cellSV,D.getStr,hn,SV.den,D.val],by simp [cellSV,SV.Ok]⟩
 | slc=>obtain ⟨a,b,c,hn⟩ := h; exact ⟨_,hn,by simp [cellSV,D.cell,hn,SV.den],by simp only [cellSV,SV.Ok,D.cell,hn,Option.getD_some]; exact ⟨mem _ hn,_,_,_,rfl⟩⟩

theorem cellsSV_spec {H : HV} {d : D} (hr : ∀ r,r ∈ d.rows → ∀ x,x ∈ r → D.Ok H x) (E : Env) {i : Nat} : ∀ {ts : List FT} {j : Nat},d.HasCells i j ts →
  SV.OkL H (cellsSV d i j ts) ∧ (cellsSV d i j ts).length = ts.length ∧ ∀ k u,(SV.denL E (cellsSV d i j ts))[k]? = some u → ∃ x,d.cellAt i (j + k) = some x ∧ u = x.val
 | [],j,_=>by simp [cellsSV,SV.OkL,SV.denL]
 | t :: r,j,h=>by
  obtain ⟨x,h1,h2,h3⟩ := cellSV_spec hr h.1 E
  obtain ⟨i1,i2,i3⟩ := cellsSV_spec (i := i) hr E h.2
  refine ⟨⟨h3,i1⟩,by simp [cellsSV,i2],fun k u hk=>?_⟩
  cases k with
  | zero=>simp only [cellsSV,SV.denL,List.getElem?_cons_zero,Option.some.injEq] at hk; exact ⟨x,h1,by rw [← hk,h2]⟩
  | succ k =>
   simp only [cellsSV,SV.denL,List.getElem?_cons_succ] at hk
   obtain ⟨y,hy1,hy2⟩ := i3 k u hk
   exact ⟨y,by rw [show j + (k + 1) = j + 1 + k from by omega]; exact hy1,hy2⟩


section
variable (P : Program)
def loadR (m : Mem) (t : TypeId) : SV → Option (List Prop × SV)
 | .ptr k off=>match m.get k,sizeT P t,aggT P t with
  | some (.cells _ cs),some n,some true=>if off + n ≤ cs.length then some ([],.agg ((cs.drop off).take n)) else none
  | some (.cells _ cs),some _,some false=>match cs[off]? with
    | some x=>some ([],x)
    | none=>none
  | _,_,_=>none
 | .elt d i j=>match ftOf P 9 t,sizeT P t,aggT P t with
  | some ts,some n,some true=>if ts.length = n then some ([d.HasCells i j ts],.agg (cellsSV d i j ts)) else none
  | some [ft],some _,some false=>some ([d.HasCell i j ft],cellSV d i j ft)
  | _,_,_=>none
 | .velt k sz i j=>match m.get k,ftOf P 9 t,sizeT P t,aggT P t with
  | some (.arr _ d),some ts,some n,some true=>if ts.length = n then some ([d.HasCells i j ts ∧ d.sz = sz],.agg (cellsSV d i j ts)) else none
  | some (.arr _ d),some [ft],some _,some false=>some ([d.HasCell i j ft ∧ d.sz = sz],cellSV d i j ft)
  | _,_,_,_=>none
 | _=>none
def _root_.Sx.SV.cellD : SV → Option D
 | .int k n=>some (.int k n)
 | .bool b=>some (.bool b)
 | .lb b=>some (.bool b)
 | .str s=>some (.str s)
 | .nils=>some (.slc none 0 [])
 | .dat d=>some d
 | _=>none
def cellDs : List SV → Option (List D)
 | []=>some []
 | x :: r=>match x.cellD,cellDs r with
  | some d,some l=>some (d :: l)
  | _,_=>none
def cutIn (r : List D) (j : Nat) (xs : List D) : List D := r.take j ++ xs ++ r.drop (j + xs.length)
def _root_.Sx.D.setCells (d : D) (i j : Nat) (xs : List D) : D := .slc d.hd d.sz (d.rows.set i (cutIn (d.rows.getD i []) j xs))
def storeR (m : Mem) (t : TypeId) (a v : SV) : Option (List Prop × Mem) :=
 match a,v.cells?,sizeT P t with
 | .velt k sz i j,some vs,some n=>match m.get k,cellDs vs with
  | some (.arr e d),some xs=>if vs.length = n then some ([i < d.len ∧ j + n ≤ d.sz ∧ d.sz = sz],m.set k (.arr e (d.setCells i j xs))) else none
  | _,_=>none
 | .ptr k off,some vs,some n=>match m.get k with
  | some (.cells ty cs)=>if vs.length = n ∧ off + n ≤ cs.length ∧ vs.all SV.one then some ([],m.set k (.cells ty (cs.take off ++ vs ++ cs.drop (off + n)))) else none
  | _=>none
 | _,_,_=>none
end

section
variable {P : Program}

theorem run_isAgg {w : World} {t : TypeId} {b : Bool} (h : aggT P t = some b) : (isAgg t).run P w = .ok b w := by
 unfold aggT at h
 unfold isAgg
 split at h
 ·rename_i fs hd
  cases h; simp [run_underlying hd]
 ·rename_i l e hd
  cases h; simp [run_underlying hd]
 ·rename_i d h1 h2 hd
  cases h
  simp only [Sem.run_bind,run_underlying hd,Result.andThen_ok]
  first | rfl | (split <;> first | rfl | (exact absurd rfl (h1 _)) | (exact absurd rfl (h2 _ _)))
 ·cases h

theorem run_sizeOf {w : World} {t : TypeId} {n : Nat} (h : sizeT P t = some n) : (Go.sizeOf t).run P w = .ok n w := by
 unfold sizeT at h
 cases hi : P.info? t with
 | none=>simp [hi] at h
 | some i=>simp [hi] at h; simp [Go.sizeOf,typeInfo,hi,h]

theorem run_loadVar_agg {w : World} {t : TypeId} {n : Nat} {a : Addr} {vs : List Value} (ha : aggT P t = some true) (hs : sizeT P t = some n) (hn : vs.length = n)
  (h : ∀ j v,vs[j]? = some v → w.cell? (a.add j) = some v) : (loadVar t a).run P w = .ok (.agg vs.toArray) w := by
 subst hn
 have := run_loadCells_list (P := P) w a vs h
 simp [loadVar,run_isAgg ha,run_sizeOf hs,this]

theorem run_loadVar_one {w : World} {t : TypeId} {a : Addr} {v : Value} (ha : aggT P t = some false) (h : w.cell? a = some v) : (loadVar t a).run P w = .ok v w := by
 simp [loadVar,run_isAgg ha,h]

theorem own_cell {w : World} {b : Nat} {t : TypeId} {vs : List Value} {j : Nat} {v : Value} (h : w.heap[b]? = some (.cells vs.toArray t (0,0))) (hv : vs[j]? = some v) :
  w.cell? ⟨b,j,none⟩ = some v := by
 simp [World.cell?,h,hv]

theorem cell_add_own {b off j : Nat} : (⟨b,off,none⟩ : Addr).add j = ⟨b,off + j,none⟩ := add_none rfl j

theorem data_cell {H : HV} {w : World} (hc : ∀ b o v,H b o = some v → w.cell? ⟨b,o,none⟩ = some v) {d : D} (hd : d.Ok H) {i j : Nat} {x : D} (h : d.cellAt i j = some x) :
  w.cell? ⟨d.addr.block,d.addr.off + i * d.sz + j,none⟩ = some x.val := by
 cases hd with
 | slc a c sz rows hsp hcap hlen hcell hok =>
  unfold D.cellAt D.rows at h
  cases h1 : rows[i]? with
  | none=>simp [h1] at h
  | some r =>
   simp [h1] at h
   exact hc _ _ _ (hcell i j r x h1 h)
 | nil=>simp [D.cellAt,D.rows] at h
 | _=>simp [D.cellAt,D.rows] at h

theorem arr_cell {C : Ctx} {E : Env} {H : HV} {w : World} {k : Nat} {e : TypeId} {d : D} (ho : OOk C E H w k (.arr e d)) {i j : Nat} {x : D} (h : d.cellAt i j = some x) :
  w.cell? ⟨E.b k,i * d.sz + j,none⟩ = some x.val := by
 obtain ⟨hd,sz,rows,rfl,hv,how,hl,_,ha⟩ := ho
 unfold D.cellAt D.rows at h
 cases h1 : rows[i]? with
 | none=>simp [h1] at h
 | some r =>
  simp [h1] at h
  have hf := flat_get hl i j r x h1 h
  rcases how.2 with ⟨_,h0⟩ | ⟨g,cap,cur,hv2,_,hg,hnc,_,hcs,htake⟩
  ·have : rows = [] := List.eq_nil_of_length_eq_zero h0
   subst this; simp at h1
  ·cases hd with
   | none=>simp [D.val,hval] at hv2
   | some y =>
    obtain ⟨a,c⟩ := y
    obtain ⟨rfl,_⟩ := ha a c rfl
    simp [D.val,hval] at hv2
    obtain ⟨rfl,rfl⟩ := hv2
    simp only [World.cell?,hg,Option.isSome_none,Bool.false_eq_true,if_false,D.sz]
    rw [← htake,List.getElem?_take] at hf
    split at hf
    ·simpa using hf
    ·cases hf

theorem loadR_spec {C : Ctx} {m : Mem} {E : Env} {H : HV} {w : World} (g : Good C m E H w) {t : TypeId} {a : SV} (ha : a.Ok H) {ps : List Prop} {v : SV}
  (h : loadR P m t a = some (ps,v)) (hp : ∀ p,p ∈ ps → p) : (Instr.loadAt t (a.den E)).run P w = .ok (v.den E) w ∧ v.Ok H := by
 cases a <;> simp only [loadR] at h <;> try cases h
 case ptr k off =>
  cases hk : m.get k with
  | none=>simp [hk] at h
  | some o =>
   cases o <;> simp only [hk] at h <;> try cases h
   rename_i ty cs
   obtain ⟨h1,h2,h3,h4⟩ := g.own k _ (Mem.get_mem hk)
   cases hs : sizeT P t with
   | none=>simp [hs] at h
   | some n =>
    cases hg : aggT P t with
    | none=>simp [hs,hg] at h
    | some b =>
     cases b with
     | true =>
      simp only [hs,hg] at h
      split at h
      ·rename_i hle
       cases h
       refine ⟨?_,?_⟩
       ·simp only [Instr.loadAt,Instr.sureAddr,SV.den,Sem.run_bind,Sem.run_pure,Result.andThen_ok]
        refine run_loadVar_agg hg hs ?_ ?_
        ·simp only [SV.denL_eq,List.length_map,List.length_take,List.length_drop]; omega
        ·intro j v hj
         rw [cell_add_own]
         refine own_cell h2 ?_
         simp only [SV.denL_eq,List.getElem?_map,List.getElem?_take,List.getElem?_drop] at hj ⊢
         split at hj
         ·exact hj
         ·cases hj
       ·simp only [SV.Ok,SV.OkL_iff] at h4 ⊢
        intro x hx
        exact h4 x (List.mem_of_mem_drop (List.mem_of_mem_take hx))
      ·cases h
     | false =>
      simp only [hs,hg] at h
      cases hc : cs[off]? with
      | none=>simp [hc] at h
      | some x =>
       simp only [hc] at h
       cases h
       refine ⟨?_,(SV.OkL_iff cs).1 h4 _ (List.mem_of_getElem? hc)⟩
       simp only [Instr.loadAt,Instr.sureAddr,SV.den,Sem.run_bind,Sem.run_pure,Result.andThen_ok]
       exact run_loadVar_one hg (own_cell h2 (by simp [SV.denL_eq,hc]))
 case elt d i j =>
  simp only [SV.Ok] at ha
  have hr : ∀ r,r ∈ d.rows → ∀ x,x ∈ r → D.Ok H x := by
   cases ha with
   | slc a c sz rows hsp hcap hlen hcell hok=>exact hok
   | _=>simp [D.rows]
  split at h
  ·rename_i ts n hf hs hg
   split at h
   ·rename_i hl
    cases h
    obtain ⟨i1,i2,i3⟩ := cellsSV_spec hr E (hp _ (List.mem_singleton.2 rfl))
    refine ⟨?_,i1⟩
    simp only [Instr.loadAt,Instr.sureAddr,SV.den,Sem.run_bind,Sem.run_pure,Result.andThen_ok]
    refine run_loadVar_agg hg hs (by simp [SV.denL_eq,i2,hl]) ?_
    intro q v hq
    obtain ⟨x,hx1,hx2⟩ := i3 q v hq
    rw [cell_add_own,hx2,Nat.add_assoc]
    exact data_cell g.cell ha hx1
   ·cases h
  ·rename_i ft n hf hs hg
   cases h
   obtain ⟨x,h1,h2,h3⟩ := cellSV_spec hr (hp _ (List.mem_singleton.2 rfl)) E
   refine ⟨?_,h3⟩
   simp only [Instr.loadAt,Instr.sureAddr,SV.den,Sem.run_bind,Sem.run_pure,Result.andThen_ok]
   rw [h2]
   exact run_loadVar_one hg (data_cell g.cell ha h1)
  ·cases h
 case velt k sz i j =>
  split at h
  ·rename_i e d ts n hk hf hs hg
   split at h
   ·rename_i hl
    cases h
    have hp1 := hp _ (List.mem_singleton.2 rfl)
    have ho := g.own k _ (Mem.get_mem hk)
    have hr : ∀ r,r ∈ d.rows → ∀ x,x ∈ r → D.Ok H x := by
     obtain ⟨h',sz',rows',rfl,hv',_,_,hk2,_⟩ := ho; exact hk2
    obtain ⟨i1,i2,i3⟩ := cellsSV_spec hr E hp1.1
    refine ⟨?_,i1⟩
    simp only [Instr.loadAt,Instr.sureAddr,SV.den,Sem.run_bind,Sem.run_pure,Result.andThen_ok]
    refine run_loadVar_agg hg hs (by simp [SV.denL_eq,i2,hl]) ?_
    intro q v hq
    obtain ⟨x,hx1,hx2⟩ := i3 q v hq
    rw [cell_add_own,hx2,Nat.add_assoc,← hp1.2]
    exact arr_cell ho hx1
   ·cases h
  ·rename_i e d ft n hk hf hs hg
   cases h
   have hp1 := hp _ (List.mem_singleton.2 rfl)
   have ho := g.own k _ (Mem.get_mem hk)
   have hr : ∀ r,r ∈ d.rows → ∀ x,x ∈ r → D.Ok H x := by
    obtain ⟨h',sz',rows',rfl,hv',_,_,hk2,_⟩ := ho; exact hk2
   obtain ⟨x,h1,h2,h3⟩ := cellSV_spec hr hp1.1 E
   refine ⟨?_,h3⟩
   simp only [Instr.loadAt,Instr.sureAddr,SV.den,Sem.run_bind,Sem.run_pure,Result.andThen_ok]
   rw [h2,← hp1.2]
   exact run_loadVar_one hg (arr_cell ho h1)
  ·cases h

theorem OkL_splice {H : HV} {cs vs : List SV} (h1 : SV.OkL H cs) (h2 : SV.OkL H vs) (a b : Nat) : SV.OkL H (cs.take a ++ vs ++ cs.drop b) := by
 rw [SV.OkL_iff] at *
 intro x hx
 simp only [List.mem_append] at hx
 rcases hx with (hx | hx) | hx
 ·exact h1 x (List.mem_of_mem_take hx)
 ·exact h2 x hx
 ·exact h1 x (List.mem_of_mem_drop hx)

theorem cellD_spec {H : HV} {v : SV} {d : D} (h : v.cellD = some d) (hv : v.Ok H) : (∀ E,v.den E = d.val) ∧ d.Ok H := by
 cases v <;> simp only [SV.cellD,reduceCtorEq,Option.some.injEq] at h <;> subst h
 ·exact ⟨fun _=>rfl,.int _ _⟩
 ·exact ⟨fun _=>rfl,.bool _⟩
 ·exact ⟨fun _=>by simp [SV.den,D.val],.bool _⟩
 ·exact ⟨fun _=>rfl,.str _⟩
 ·exact ⟨fun _=>by simp [SV.den,D.val,hval],.nil 0⟩
 ·exact ⟨fun _=>by simp [SV.den],hv.1⟩

theorem cellDs_spec {H : HV} : ∀ {vs : List SV} {xs : List D},cellDs vs = some xs → SV.OkL H vs → (∀ E,SV.denL E vs = xs.map D.val) ∧ (∀ x,x ∈ xs → x.Ok H) ∧ xs.length = vs.length
 | [],xs,h,_=>by simp only [cellDs,Option.some.injEq] at h; subst h; exact ⟨fun _=>rfl,by simp,rfl⟩
 | v :: r,xs,h,hv=>by
  simp only [cellDs] at h
  split at h
  ·rename_i d l h1 h2
   cases h
   obtain ⟨a1,a2⟩ := cellD_spec h1 hv.1
   obtain ⟨b1,b2,b3⟩ := cellDs_spec h2 hv.2
   refine ⟨fun E=>by simp only [SV.denL,List.map_cons,a1 E,b1 E],fun x hx=>?_,by simp [b3]⟩
   rcases List.mem_cons.1 hx with rfl | hx
   ·exact a2
   ·exact b2 x hx
  ·cases h

theorem flat_set {sz : Nat} : ∀ {rows : List (List D)},(∀ r,r ∈ rows → r.length = sz) → ∀ (i j : Nat) (xs : List D),i < rows.length → j + xs.length ≤ sz →
  flat (rows.set i (cutIn (rows.getD i []) j xs)) = (flat rows).take (i * sz + j) ++ xs.map D.val ++ (flat rows).drop (i * sz + j + xs.length)
 | [],_,i,_,_,hi,_=>by simp at hi
 | r :: rest,h,0,j,xs,_,hj=>by
  have hl := h r List.mem_cons_self
  simp only [List.set_cons_zero,List.getD_cons_zero,Nat.zero_mul,Nat.zero_add,flat,List.flatten_cons,List.map_append,cutIn]
  rw [List.take_append_of_le_length (by simp; omega),List.drop_append_of_le_length (by simp; omega)]
  simp [List.map_take,List.map_drop]
 | r :: rest,h,i + 1,j,xs,hi,hj=>by
  have hl := h r List.mem_cons_self
  have ih := flat_set (rows := rest) (fun r hr=>h r (List.mem_cons_of_mem _ hr)) i j xs (by simpa using hi) hj
  simp only [List.set_cons_succ,List.getD_cons_succ]
  have e : ∀ q : List (List D),flat (r :: q) = r.map D.val ++ flat q := fun q=>by simp [flat]
  rw [e,e,ih]
  have e1 : (i + 1) * sz + j = (r.map D.val).length + (i * sz + j) := by simp [hl,Nat.add_mul]; omega
  rw [e1,List.take_length_add_append,Nat.add_assoc ((r.map D.val).length),List.drop_length_add_append]
  simp [List.append_assoc]

theorem cutIn_len {r : List D} {j : Nat} {xs : List D} (h : j + xs.length ≤ r.length) : (cutIn r j xs).length = r.length := by
 simp only [cutIn,List.length_append,List.length_take,List.length_drop]; omega

theorem splice_take {α : Type} (l V : List α) (p n N : Nat) (hV : V.length = n) (h : p + n ≤ N) (hN : N ≤ l.length) :
  (l.take p ++ V ++ l.drop (p + n)).take N = (l.take N).take p ++ V ++ (l.take N).drop (p + n) := by
 have hA : (l.take p ++ V).length = p + n := by simp [hV]; omega
 rw [List.take_append,hA,List.take_of_length_le (by omega),List.drop_take,List.take_take,Nat.min_eq_left (by omega)]
theorem store_velt {C : Ctx} {m : Mem} {E : Env} {H : HV} {w : World} (g : Good C m E H w) {t : TypeId} {v : SV} (hv : v.Ok H) {k sz i j n : Nat} {vs : List SV} {e : TypeId} {d : D} {xs : List D}
  (hc : v.cells? = some vs) (hs : sizeT P t = some n) (hk : m.get k = some (.arr e d)) (hx : cellDs vs = some xs) (hl : vs.length = n) (hi : i < d.len) (hj : j + n ≤ d.sz) (hz : d.sz = sz) :
  ∃ w',(Instr.storeAt t ((SV.velt k sz i j).den E) (v.den E)).run P w = .ok () w' ∧ Good C (m.set k (.arr e (d.setCells i j xs))) E H w' ∧ ∀ key,Keeps m E H w key (m.set k (.arr e (d.setCells i j xs))) E H w' := by
 have hmem := Mem.get_mem hk
 obtain ⟨hd,sz',rows,rfl,hv',how,hrl,hro,ha⟩ := g.own k _ hmem
 simp only [D.sz] at hj hz
 subst hz
 simp only [D.len,D.rows] at hi
 obtain ⟨x1,x2,x3⟩ := cellDs_spec hx (SV.cells?_ok hc hv)
 have hcells := SV.cells?_den E hc
 cases hd with
 | none =>
  exfalso
  rcases how.2 with ⟨_,h0⟩ | ⟨g',cap,cur,h1,_⟩
  ·omega
  ·simp [D.val,hval] at h1
 | some q =>
  obtain ⟨a,c⟩ := q
  obtain ⟨rfl,hno⟩ := ha a c rfl
  rcases how with ⟨hfl,hcase⟩
  rcases hcase with ⟨h0,_⟩ | ⟨g',cap,cur,h1,hbase,hg,hnc,hcm,hcs,htake⟩
  ·simp [D.val,hval] at h0
  ·simp only [D.val,hval,Value.slice.injEq,Option.some.injEq,Addr.mk.injEq] at h1
   obtain ⟨⟨hgb,_,_⟩,_,rfl⟩ := h1
   subst hgb
   have hij : i * sz' + j + n ≤ rows.length * sz' := by
    have : (i + 1) * sz' ≤ rows.length * sz' := Nat.mul_le_mul_right _ hi
    rw [Nat.add_mul] at this; omega
   have hrc : rows.length * sz' ≤ c * sz' := Nat.mul_le_mul_right _ hnc
   have hst := run_storeCells_at P (E.b k) (i * sz' + j) e (SV.denL E vs) 0 cur w hg (by simp [SV.denL_eq,hl]; omega)
    (fun u hu=>by rw [x1 E,List.mem_map] at hu; obtain ⟨x,_,rfl⟩ := hu; exact x.val_one)
   have hlen : (SV.denL E vs).length = n := by simp [SV.denL_eq,hl]
   refine ⟨w.setRow (E.b k) (cur.toList.take (i * sz' + j + 0) ++ SV.denL E vs ++ cur.toList.drop (i * sz' + j + 0 + (SV.denL E vs).length)).toArray,?_,?_,fun key=>?_⟩
   ·simp only [Instr.storeAt,Instr.sureAddr,SV.den,Sem.run_bind,Sem.run_pure,Result.andThen_ok,storeVar,hcells,run_sizeOf hs]
    rw [if_neg (by simp [SV.denL_eq,hl])]
    exact hst
   ·have hrow : ∀ r,r ∈ rows.set i (cutIn (rows.getD i []) j xs) → r.length = sz' ∧ ∀ x,x ∈ r → x.Ok H := by
     intro r hr
     have hget : rows.getD i [] = rows[i] := by simp [hi]
     rcases List.mem_or_eq_of_mem_set hr with hr | rfl
     ·exact ⟨hrl r hr,hro r hr⟩
     ·rw [hget]
      have hli := hrl _ (List.getElem_mem hi)
      refine ⟨by rw [cutIn_len (by omega),hli],fun x hx'=>?_⟩
      simp only [cutIn,List.mem_append] at hx'
      rcases hx' with (hx' | hx') | hx'
      ·exact hro _ (List.getElem_mem hi) x (List.mem_of_mem_take hx')
      ·exact x2 x hx'
      ·exact hro _ (List.getElem_mem hi) x (List.mem_of_mem_drop hx')
    refine g.put hk (fun q hq=>setRow_other w _ q _ hq) rfl rfl rfl (by simp [World.setRow]) (by simp [OBlk.Lies,D.hd]) ?_
    refine ⟨some (⟨E.b k,0,none⟩,c),sz',rows.set i (cutIn (rows.getD i []) j xs),rfl,by rw [hv',List.length_set],?_,fun r hr=>(hrow r hr).1,fun r hr=>(hrow r hr).2,fun a c' h=>by
     simp only [Option.some.injEq,Prod.mk.injEq] at h; obtain ⟨rfl,_⟩ := h; exact ⟨rfl,hno⟩⟩
    refine ⟨?_,.inr ⟨E.b k,c,_,?_,hbase,setRow_heap w _ _ _ e _ hg,by rw [List.length_set]; exact hnc,hcm,?_,?_⟩⟩
    ·rw [flat_len (fun r hr=>(hrow r hr).1)]
    ·simp [D.setCells,D.val,hval,D.hd,D.rows]
    ·simp only [List.size_toArray,List.length_append,List.length_take,List.length_drop,hlen,Array.length_toList,hcs]; omega
    ·rw [List.length_set,flat_set hrl i j xs hi (by omega),← x1 E,← htake,x3,hl,hlen]
     simp only [Nat.add_zero]
     have hcl : cur.toList.length = c * sz' := by simp [hcs]
     exact splice_take _ _ _ _ _ hlen hij (by rw [hcl]; exact hrc)
   ·have hspec := Mem.set_spec (o' := .arr e ((D.slc (some (⟨E.b k,0,none⟩,c)) sz' rows).setCells i j xs)) g.keys hk
    refine ⟨by simp [World.setRow],fun q hq hno'=>setRow_other w _ q _ (fun e'=>hno' k _ hmem (by simp [OBlk.Lies,D.hd]) e'.symm),fun _ _ _ h=>.inl h,fun q o hq=>?_,fun q o hq hl2=>?_,rfl,rfl,rfl⟩
    ·rcases hspec q o hq with ⟨rfl,_⟩ | ⟨_,h⟩
     ·exact .inr ⟨_,hmem⟩
     ·exact .inr ⟨o,h⟩
    ·rcases hspec q o hq with ⟨rfl,_⟩ | ⟨_,h⟩
     ·exact .inr ⟨q,_,hmem,by simp [OBlk.Lies,D.hd],rfl⟩
     ·exact .inr ⟨q,o,h,hl2,rfl⟩

theorem storeR_spec {C : Ctx} {m m' : Mem} {E : Env} {H : HV} {w : World} (g : Good C m E H w) {t : TypeId} {a v : SV} (hv : v.Ok H) {ps : List Prop}
  (h : storeR P m t a v = some (ps,m')) (hp : ∀ p,p ∈ ps → p) : ∃ w',(Instr.storeAt t (a.den E) (v.den E)).run P w = .ok () w' ∧ Good C m' E H w' ∧ ∀ key,Keeps m E H w key m' E H w' := by
 unfold storeR at h
 split at h
 ·rename_i k sz i j vs n hc hs
  split at h
  ·rename_i e d xs hk hx
   split at h
   ·rename_i hl
    cases h
    obtain ⟨h1,h2,h3⟩ := hp _ (List.mem_singleton.2 rfl)
    exact store_velt g hv hc hs hk hx hl h1 h2 h3
   ·cases h
  ·cases h
 ·rename_i k off vs n hc hs
  cases hk : m.get k with
  | none=>simp [hk] at h
  | some o =>
   cases o <;> simp only [hk] at h <;> try cases h
   rename_i ty cs
   split at h
   ·rename_i hcond
    obtain ⟨hl,hle,hone⟩ := hcond
    cases h
    obtain ⟨h1,h2,h3,h4⟩ := g.own k _ (Mem.get_mem hk)
    have hcells := SV.cells?_den E hc
    have hst := run_storeCells_at P (E.b k) off ty (SV.denL E vs) 0 (SV.denL E cs).toArray w h2 (by simp [SV.denL_eq,hl]; omega)
     (fun u hu=>by
      rw [SV.denL_eq,List.mem_map] at hu
      obtain ⟨x,hx,rfl⟩ := hu
      exact SV.one_den E (List.all_eq_true.1 hone x hx))
    refine ⟨w.setRow (E.b k) ((SV.denL E cs).toArray.toList.take (off + 0) ++ SV.denL E vs ++ (SV.denL E cs).toArray.toList.drop (off + 0 + (SV.denL E vs).length)).toArray,?_,?_,fun key=>?_⟩
    ·simp only [Instr.storeAt,Instr.sureAddr,SV.den,Sem.run_bind,Sem.run_pure,Result.andThen_ok,storeVar,hcells,run_sizeOf hs]
     rw [if_neg (by simp [SV.denL_eq,hl])]
     exact hst
    ·refine g.put hk (fun j hj=>setRow_other w _ j _ hj) rfl rfl rfl (by simp [World.setRow]) trivial ⟨h1,?_,h3,OkL_splice h4 (SV.cells?_ok hc hv) _ _⟩
     rw [setRow_heap w _ _ _ ty _ h2]
     congr 2
     simp [SV.denL_eq,hl,List.map_take,List.map_drop]
    ·have hmem := Mem.get_mem hk
     have hspec := Mem.set_spec (o' := .cells ty (cs.take off ++ vs ++ cs.drop (off + n))) g.keys hk
     refine ⟨by simp [World.setRow],fun j hj hno=>setRow_other w _ j _ (fun e=>hno k _ hmem trivial e.symm),fun _ _ _ h=>.inl h,fun q o hq=>?_,fun q o hq hl2=>?_,rfl,rfl,rfl⟩
     ·rcases hspec q o hq with ⟨rfl,_⟩ | ⟨_,h⟩
      ·exact .inr ⟨_,hmem⟩
      ·exact .inr ⟨o,h⟩
     ·rcases hspec q o hq with ⟨rfl,_⟩ | ⟨_,h⟩
      ·exact .inr ⟨q,_,hmem,trivial,rfl⟩
      ·exact .inr ⟨q,o,h,hl2,rfl⟩
   ·cases h
 ·cases h
end
end Sx
end
noncomputable section
namespace Sx
open Go RowKit

def SV.shift (o : Nat) : SV → Option SV
 | .ptr k off=>some (.ptr k (off + o))
 | .elt d i j=>some (.elt d i (j + o))
 | .velt k sz i j=>some (.velt k sz i (j + o))
 | _=>none

def SV.toB : SV → Option Bool
 | .bool b=>some b
 | .lb b=>some b
 | _=>none
def nilOf (a : SV) (d : D) : Bool := match a with
 | .vec _=>match d.rows with
  | _ :: _=>false
  | []=>d.isNil
 | _=>d.isNil

theorem nilOf_eq {a : SV} {d : D} (h : d.hd = none → d.len = 0) : nilOf a d = d.isNil := by
 unfold nilOf
 split
 ·cases hr : d.rows with
  | nil=>rfl
  | cons x r =>
   cases hh : d.hd with
   | none=>simp [D.len,hr] at h; exact absurd hh h
   | some q=>simp [D.isNil,hh]
 ·rfl
def D.sub (d : D) (l h : Nat) : D := .slc (d.hd.map fun x=>(if x.2 = l then x.1 else x.1.add (l * d.sz),x.2 - l)) d.sz ((d.rows.drop l).take (h - l))
def D.sub3 (d : D) (l h : Nat) : D := .slc (d.hd.map fun x=>(if h = l then x.1 else x.1.add (l * d.sz),h - l)) d.sz ((d.rows.drop l).take (h - l))

def D.Fits (d : D) (s : Nat) : Prop := d.rows = [] ∨ d.sz = s
def D.Past (d : D) (q : Nat) : Prop := ∀ a c,d.hd = some (a,c) → c ≠ q
def D.Tight (d : D) : Prop := ∀ a c,d.hd = some (a,c) → c = d.len

section
variable (P : Program)
def eqFs (xs ys : List SV) : List Field → Option Bool
 | []=>some true
 | f :: fs=>match P.underlying f.type,xs[f.offset]?,ys[f.offset]?,eqFs xs ys fs with
  | some (.int _),some (.int k a),some (.int k' b),some r=>if f.name ≠ "_" ∧ k = k' then some ((a == b) && r) else none
  | some .bool,some x,some y,some r=>match x.toB,y.toB with
   | some a,some b=>if f.name ≠ "_" then some ((a == b) && r) else none
   | _,_=>none
  | some .string,some (.str a),some (.str b),some r=>if f.name ≠ "_" then some ((a.toList == b.toList) && r) else none
  | _,_,_,_=>none
def eqIs (xs ys : List SV) : List Nat → Option Bool
 | []=>some true
 | i :: l=>match xs[i]?,ys[i]?,eqIs xs ys l with
  | some (.int k a),some (.int k' b),some r=>if k = k' then some ((a == b) && r) else none
  | _,_,_=>none
def arrN (t : TypeId) : Option Nat :=
 match P.underlying t with
 | some (.array n e)=>match P.underlying e,sizeT P e with
  | some (.int _),some 1=>if P.eqGuardType P.depth t = false then some n else none
  | _,_=>none
 | _=>none

def binR (m : Mem) (op : BinOp) (t : TypeId) (a b : SV) : Option (List Prop × SV) :=
 match a,b with
 | .int k x,.int k' y =>
  if k = k' then
   match op with
   | .add=>some ([],.int k (k.wrap (x + y)))
   | .sub=>some ([],.int k (k.wrap (x - y)))
   | .mul=>some ([],.int k (k.wrap (x * y)))
   | .quo=>some ([y ≠ 0],.int k (k.wrap (x.tdiv y)))
   | .rem=>some ([y ≠ 0],.int k (x.tmod y))
   | .eql=>some ([],.bool (x == y))
   | .neq=>some ([],.bool (x != y))
   | .lss=>some ([],.bool (decide (x < y)))
   | .leq=>some ([],.bool (decide (x ≤ y)))
   | .gtr=>some ([],.bool (decide (x > y)))
   | .geq=>some ([],.bool (decide (x ≥ y)))
   | _=>none
  else none
 | .str x,.str y =>
  match op with
  | .eql=>some ([],.bool (x.toList == y.toList))
  | .neq=>some ([],.bool (!(x.toList == y.toList)))
  | _=>none
 | .agg xs,.agg ys =>
  match P.underlying t,op with
  | some (.struct fs),.eql=>if P.stoodInHeld t = false ∧ P.eqGuardType P.depth t = false then (eqFs P xs ys fs.toList).map fun b=>([],.bool b) else none
  | some (.struct fs),.neq=>if P.stoodInHeld t = false ∧ P.eqGuardType P.depth t = false then (eqFs P xs ys fs.toList).map fun b=>([],.bool (!b)) else none
  | _,.eql=>match arrN P t with
   | some n=>(eqIs xs ys (List.range n)).map fun b=>([],.bool b)
   | none=>none
  | _,.neq=>match arrN P t with
   | some n=>(eqIs xs ys (List.range n)).map fun b=>([],.bool (!b))
   | none=>none
  | _,_=>none
 | a,.nils =>
  match P.underlying t,dataOf m a,op with
  | some (.slice _),some d,.eql=>some ([],.bool (nilOf a d))
  | some (.slice _),some d,.neq=>some ([],.bool (!nilOf a d))
  | _,_,_=>none
 | a,b =>
  match P.underlying t,a.toB,b.toB,op with
  | some .bool,some x,some y,.eql=>some ([],.bool (x == y))
  | some .bool,some x,some y,.neq=>some ([],.bool (!(x == y)))
  | _,_,_,_=>none

def unR (op : UnOp) : SV → Option SV
 | .bool b=>match op with
  | .not=>some (.bool !b)
  | _=>none
 | .lb b=>match op with
  | .not=>some (.lb !b)
  | _=>none
 | .int k n=>match op with
  | .neg=>some (.int k (k.wrap (0 - n)))
  | _=>none
 | _=>none

def fieldR (s : TypeId) (x : SV) (f : Nat) : Option SV :=
 match P.underlying s with
 | some (.struct fs)=>match fs[f]? with
  | some fd=>match sizeT P fd.type with
   | some (_ + 1)=>x.shift fd.offset
   | _=>none
  | none=>none
 | _=>none
def indexV (m : Mem) (t : TypeId) (k s lo n : Nat) (i : SV) : Option (List Prop × SV) :=
 match i,P.underlying t,m.get k with
 | .int _ q,some (.slice e),some (.arr _ d)=>match sizeT P e with
  | some s'=>if s' = s then some ([lo + n ≤ d.len ∧ 0 ≤ q ∧ q < n ∧ d.sz = s],.velt k s (lo + q.toNat) 0) else none
  | none=>none
 | _,_,_=>none
def indexR0 (m : Mem) (t : TypeId) (x : SV) (i : SV) : Option (List Prop × SV) :=
 match i with
 | .int _ n =>
  match P.underlying t with
  | some (.slice e)=>match sizeT P e,dataOf m x with
   | some s,some d=>match x with
    | .vec k=>if shut m x then some ([0 ≤ n ∧ n < d.len ∧ d.sz = s],.elt d n.toNat 0) else some ([0 ≤ n ∧ n < d.len ∧ d.sz = s],.velt k s n.toNat 0)
    | _=>some ([0 ≤ n ∧ n < d.len ∧ d.sz = s],.elt d n.toNat 0)
   | _,_=>none
  | some (.array len e)=>match sizeT P e with
   | some s=>match x with
    | .ptr k off=>some ([0 ≤ n ∧ n < (len : Int)],.ptr k (off + n.toNat * s))
    | .elt d i j=>some ([0 ≤ n ∧ n < (len : Int)],.elt d i (j + n.toNat * s))
    | _=>none
   | none=>none
  | _=>none
 | _=>none
def indexS (t : TypeId) (k n : Nat) (i : SV) : Option (List Prop × SV) :=
 match i,P.underlying t with
 | .int _ q,some (.slice e)=>match sizeT P e with
  | some s=>some ([0 ≤ q ∧ q < n],.ptr k (q.toNat * s))
  | none=>none
 | _,_=>none

def indexR (m : Mem) (t : TypeId) (x : SV) (i : SV) : Option (List Prop × SV) :=
 match x with
 | .view k s lo n=>indexV P m t k s lo n i
 | .sl k n=>indexS P t k n i
 | x=>indexR0 P m t x i
def pubR (m : Mem) : SV → Mem
 | .vec k=>match m.get k with
  | some (.arr _ d)=>m.set k (.pub d)
  | _=>m
 | _=>m

def pubsR : List SV → Mem → Mem
 | [],m=>m
 | x :: r,m=>pubsR r (pubR m x)

def boundR : Option SV → Nat → Option Int
 | none,n=>some n
 | some (.int _ i),_=>some i
 | _,_=>none

def subR (m : Mem) (t : TypeId) (x : SV) (lo hi mx : Option SV) : Option (List Prop × SV × Mem) :=
 match P.underlying t with
 | some (.slice e)=>match sizeT P e,dataOf m x with
  | some s,some d=>match boundR lo 0,boundR hi d.len,mx with
   | some l,some h,none=>some ([0 ≤ l ∧ l ≤ h ∧ h ≤ d.len ∧ d.Fits s],.dat (d.sub l.toNat h.toNat),pubR m x)
   | some l,some h,some (.int _ q)=>match hi with
    | some _=>some ([0 ≤ l ∧ l ≤ h ∧ h ≤ d.len ∧ q = h ∧ d.Fits s],.dat (d.sub3 l.toNat h.toNat),pubR m x)
    | none=>none
   | _,_,_=>none
  | _,_=>none
 | _=>none

def toD (m : Mem) : SV → Option D
 | .int k n=>some (.int k n)
 | .bool b=>some (.bool b)
 | .lb b=>some (.bool b)
 | .str s=>some (.str s)
 | .nils=>some (.slc none 0 [])
 | .dat d=>some d
 | .vec k=>match m.get k with
  | some (.pub d)=>some d
  | _=>none
 | _=>none

def toDs (m : Mem) : List SV → Option (List D)
 | []=>some []
 | x :: r=>match toD m x,toDs m r with
  | some d,some ds=>some (d :: ds)
  | _,_=>none
def fillS (place : Nat → Option (Nat × Nat)) (cells : List SV) : List (Nat × SV) → Option (List SV)
 | []=>some cells
 | (i,v) :: rest =>
  match place i,v.cells? with
  | some (off,size),some vs=>if vs.length = size ∧ off + size ≤ cells.length then fillS place (cells.take off ++ vs ++ cells.drop (off + size)) rest else none
  | _,_=>none

def buildR (t : TypeId) (parts : List (Nat × SV)) : Option SV :=
 match P.info? t,P.underlying t with
 | some i,some (.struct fs)=>match i.zero with
  | some z=>match (ofVal z).cells? with
   | some cs=>match fs.toList.foldr (fun f acc=>match sizeT P f.type,acc with | some n,some l=>some ((f.offset,n) :: l) | _,_=>none) (some []) with
    | some places=>match fillS (places[·]?) cs parts with
     | some l=>some (.agg l)
     | none=>none
    | none=>none
   | none=>none
  | none=>none
 | some i,some (.array _ el)=>match i.zero,sizeT P el with
  | some z,some s=>match (ofVal z).cells? with
   | some cs=>match fillS (fun i=>some (i * s,s)) cs parts with
    | some l=>some (.agg l)
    | none=>none
   | none=>none
  | _,_=>none
 | _,_=>none

def rowsOf (m : Mem) (sz : Nat) : Nat → List (Nat × SV) → Option (List (List D))
 | _,[]=>some []
 | i,(j,v) :: r =>
  match v.cells? with
  | some vs=>match toDs m vs,rowsOf m sz (i + 1) r with
   | some ds,some rs=>if i = j ∧ ds.length = sz then some (ds :: rs) else none
   | _,_=>none
  | none=>none
def D.IsBytes (d : D) : Prop := ∃ ns : List Int,d.rows = ns.map fun n=>[.int .u8 n]
def D.bytesOf (d : D) : ByteArray := d.rows.foldl (fun r x=>match x with | [.int _ n]=>r.push (UInt8.ofNat n.toNat) | _=>r) ByteArray.empty
def rowKey (r : List D) : Int := match (r[0]? : Option D) with | some (.int _ n)=>n | _=>0
def D.hasKey (d : D) (n : Int) : Bool := d.rows.any fun r=>rowKey r == n
def D.keyIx (d : D) (n : Int) : Nat := d.rows.findIdx fun r=>rowKey r == n
def D.putKey (d : D) (k : IntKind) (n : Int) (ds : List D) : D :=
 .slc d.hd d.sz (if d.hasKey n then d.rows.set (d.keyIx n) (.int k n :: ds) else d.rows ++ [.int k n :: ds])
def SV.fits : SV → FT → Bool
 | .int k _,.int k'=>decide (k = k')
 | .bool _,.bool=>true
 | .lb _,.bool=>true
 | .str _,.str=>true
 | .dat _,.slc=>true
 | .nils,.slc=>true
 | _,_=>false
def fitsL : List SV → List FT → Bool
 | [],[]=>true
 | x :: r,t :: s=>x.fits t && fitsL r s
 | _,_=>false
def fitsV (ag : Bool) (ts : List FT) (v : SV) : Option (List SV) :=
 match ag,v with
 | true,.agg vs=>if fitsL vs ts = true then some vs else none
 | false,.agg _=>none
 | false,v=>match ts with | [t]=>if v.fits t = true then some [v] else none | _=>none
 | _,_=>none
def lookA (n : Int) (k : IntKind) : List (SV × SV) → Option (List (Bool × SV))
 | []=>some []
 | (a,v) :: r=>match a,lookA n k r with
  | .int k' n',some l=>if k' = k then some ((n == n',v) :: l) else none
  | _,_=>none

def okd (commaOk : Bool) (v : SV) (b : Bool) : SV := if commaOk then .tup [v,.lb b] else v

def lookR (m : Mem) (t : TypeId) (x i : SV) (commaOk : Bool) : Option (List (Bool × SV) × SV) :=
 match P.underlying t,x,i with
 | some (.map kt et),.mapp key,.int k n=>match P.underlying kt,m.get key,P.info? et with
  | some (.int k'),some (.map es),some inf=>if k' = k then
    match lookA n k es,inf.zero with
    | some l,some z=>some (l.map fun a=>(a.1,okd commaOk a.2 true),okd commaOk (ofVal z) false)
    | _,_=>none
   else none
  | some (.int k'),some (.mapD kk ag ts d),some inf=>if k' = k ∧ kk = k then
    match inf.zero with
    | some z=>some ([(d.hasKey n,okd commaOk (mapSV ag ts d (d.keyIx n)) true)],okd commaOk (ofVal z) false)
    | none=>none
   else none
  | _,_,_=>none
 | _,_,_=>none

def pickA (d : SV) : List (Bool × SV) → SV
 | []=>d
 | (b,v) :: r=>match b with
  | true=>v
  | false=>pickA d r
def keyGt (n : Int) : SV → Bool
 | .int _ m=>decide (n < m)
 | _=>false
def insE (k : IntKind) (n : Int) (v : SV) : List (SV × SV) → List (SV × SV)
 | []=>[(.int k n,v)]
 | e :: r=>match keyGt n e.1 with
  | true=>(.int k n,v) :: e :: r
  | false=>e :: insE k n v r

def insO (k : IntKind) (n : Int) (v : SV) : OBlk → OBlk
 | .map es=>.map (insE k n v es)
 | o=>o
def newK (k : IntKind) (n : Int) (es : List (SV × SV)) : Bool := es.all fun e=>match e.1 with | .int k2 n2=>decide (k2 = k) && !(n == n2) | _=>false

def insOk (m : Mem) (t : TypeId) (x i : SV) : Option (Nat × IntKind × Int) :=
 match P.underlying t,x,i with
 | some (.map kt _),.mapp key,.int k n=>match P.underlying kt,m.get key with
  | some (.int k'),some (.map es)=>if k' = k ∧ newK k n es = true then some (key,k,n) else none
  | _,_=>none
 | _,_,_=>none
def insD (m : Mem) (t : TypeId) (x i v : SV) : Option Mem :=
 match P.underlying t,x,i with
 | some (.map kt _),.mapp key,.int k n=>match P.underlying kt,m.get key with
  | some (.int k'),some (.mapD kk ag ts d)=>match fitsV ag ts v with
   | some vs=>match cellDs vs with
    | some ds=>if k' = k ∧ kk = k then some (m.set key (.mapD kk ag ts (d.putKey k n ds))) else none
    | none=>none
   | none=>none
  | _,_=>none
 | _,_,_=>none
def insR (m : Mem) (t : TypeId) (x i v : SV) : Option Mem :=
 match insOk P m t x i with
 | some (key,k,n)=>match m.get key with
  | some o=>some (m.set key (insO k n v o))
  | none=>none
 | none=>insD P m t x i v
end

end Sx
end
noncomputable section
namespace Sx
open Go RowKit

section
variable {P : Program}

theorem toB_den (E : Env) {a : SV} {x : Bool} (h : a.toB = some x) : a.den E = .bool x := by
 cases a <;> simp [SV.toB] at h <;> subst h <;> simp [SV.den]

theorem eqGuard_plain (w : World) (op : BinOp) (t : TypeId) (x y : Operand) (a b : Value) (h1 : ∀ cs,a ≠ .agg cs) (h2 : a ≠ .nilIface) :
  (eqGuard op t x y a b).run P w = .ok () w := by
 unfold eqGuard
 cases a with
 | agg cs=>exact absurd rfl (h1 cs)
 | nilIface=>exact absurd rfl h2
 | _=>cases op <;> rfl

theorem hval_agg (h : Hd) (n : Nat) : (∀ cs,hval h n ≠ .agg cs) ∧ hval h n ≠ .nilIface := by
 cases h <;> exact ⟨fun cs=>by simp [hval],by simp [hval]⟩

theorem run_binOp_int (w : World) (op : BinOp) (t : TypeId) (k : IntKind) (x y : Int) (ps : List Prop) (v : SV) (E : Env) (m : Mem)
  (h : binR P m op t (.int k x) (.int k y) = some (ps,v)) (hp : ∀ p,p ∈ ps → p) : (binOp op t (.int k x) (.int k y)).run P w = .ok (v.den E) w := by
 simp only [binR,if_true] at h
 cases op <;> simp only [Option.some.injEq,Prod.mk.injEq,reduceCtorEq] at h <;> obtain ⟨rfl,rfl⟩ := h
 case quo =>
  have := hp _ (List.mem_singleton.2 rfl)
  simp [binOp,Op.intDiv,this,SV.den]
 case rem =>
  have := hp _ (List.mem_singleton.2 rfl)
  simp [binOp,Op.intDiv,this,SV.den]
 all_goals simp [binOp,Op.intArith,Op.intCmp,SV.den]

theorem run_part_one {w : World} {t : TypeId} {xs : List SV} {E : Env} {off : Nat} {v : SV} (ht : aggT P t = some false) (h : xs[off]? = some v) :
  (part t (SV.denL E xs).toArray off).run P w = .ok (v.den E) w := by
 have hx : (SV.denL E xs)[off]? = some (v.den E) := by simp [SV.denL_eq,h]
 simp [part,run_isAgg ht,hx]

theorem eqFs_spec {xs ys : List SV} {E : Env} {w : World} (d : Nat) : ∀ {fs : List Field} {b : Bool},eqFs P xs ys fs = some b →
  (Op.eqFields (d + 1) (SV.denL E xs).toArray (SV.denL E ys).toArray fs).run P w = .ok b w
 | [],b,h=>by simp [eqFs] at h; subst h; simp [Op.eqFields]
 | f :: fs,b,h=>by
  simp only [eqFs] at h
  have go : ∀ (u v : SV) (r b' : Bool),aggT P f.type = some false → xs[f.offset]? = some u → ys[f.offset]? = some v → f.name ≠ "_" → eqFs P xs ys fs = some r →
    (Op.equalIn (d + 1) f.type (u.den E) (v.den E)).run P w = .ok b' w → b = (b' && r) →
    (Op.eqFields (d + 1) (SV.denL E xs).toArray (SV.denL E ys).toArray (f :: fs)).run P w = .ok b w := by
   intro u v r b' h1 h2 h3 h4 h5 h6 h7
   simp only [Op.eqFields,if_pos h4,Sem.run_bind,run_part_one h1 h2,run_part_one h1 h3,Result.andThen_ok,h6]
   cases b' with
   | true=>simpa [h7] using eqFs_spec d h5
   | false=>simp [h7]
  split at h
  ·rename_i ku k a k' b' r hu hx hy hr
   split at h
   ·rename_i hc
    obtain ⟨hn,rfl⟩ := hc
    cases h
    exact go _ _ r _ (by simp [aggT,hu]) hx hy hn hr (by simpa [SV.den] using run_equalIn_int (P := P) w d f.type k ku a b' hu) rfl
   ·cases h
  ·rename_i x y r hu hx hy hr
   split at h
   ·rename_i a b' ha hb
    split at h
    ·rename_i hn
     cases h
     exact go _ _ r _ (by simp [aggT,hu]) hx hy hn hr (by rw [toB_den E ha,toB_den E hb]; exact run_equalIn_bool' (P := P) w d f.type a b' hu) rfl
    ·cases h
   ·cases h
  ·rename_i a b' r hu hx hy hr
   split at h
   ·rename_i hn
    cases h
    exact go _ _ r _ (by simp [aggT,hu]) hx hy hn hr (by simpa [SV.den] using run_equalIn_string (P := P) w d f.type a b' hu) rfl
   ·cases h
  ·cases h

theorem run_structEq {w : World} {E : Env} {t : TypeId} {fs : Array Field} {xs ys : List SV} {b : Bool} (ht : P.underlying t = some (.struct fs)) (hp : P.stoodInHeld t = false)
  (h : eqFs P xs ys fs.toList = some b) : (Op.equalIn 10000 t ((SV.agg xs).den E) ((SV.agg ys).den E)).run P w = .ok b w := by
 have hf : P.fieldsOf t = fs := by simp [Program.fieldsOf,ht]
 simp only [SV.den]
 rw [run_equalIn_struct w 9999 t _ _ (by rw [hf]; exact ht) hp,hf]
 exact eqFs_spec 9998 h

theorem eqIs_spec {xs ys : List SV} {E : Env} {w : World} (d : Nat) {e : TypeId} {k0 : IntKind} (he : P.underlying e = some (.int k0)) : ∀ {l : List Nat} {b : Bool},eqIs xs ys l = some b →
  (Op.eqItems (d + 1) e 1 (SV.denL E xs).toArray (SV.denL E ys).toArray l).run P w = .ok b w
 | [],b,h=>by simp [eqIs] at h; subst h; simp [Op.eqItems]
 | i :: l,b,h=>by
  simp only [eqIs] at h
  split at h
  ·rename_i k a k' b' r hx hy hr
   split at h
   ·rename_i hk
    subst hk
    cases h
    have ht : aggT P e = some false := by simp [aggT,he]
    have h1 := run_part_one (P := P) (w := w) (E := E) ht hx
    have h2 := run_part_one (P := P) (w := w) (E := E) ht hy
    simp only [SV.den] at h1 h2
    simp only [Op.eqItems,Nat.mul_one,Sem.run_bind,h1,h2,Result.andThen_ok,run_equalIn_int (P := P) w d e k k0 a b' he]
    cases (a == b') with
    | true=>simpa using eqIs_spec d he hr
    | false=>simp
   ·cases h
  ·cases h

theorem run_arrEq {w : World} {E : Env} {t : TypeId} {n : Nat} {xs ys : List SV} {b : Bool} (ht : arrN P t = some n) (h : eqIs xs ys (List.range n) = some b) :
  (Op.equalIn 10000 t ((SV.agg xs).den E) ((SV.agg ys).den E)).run P w = .ok b w ∧ P.eqGuardType P.depth t = false := by
 unfold arrN at ht
 split at ht
 ·rename_i n' e hu
  split at ht
  ·rename_i k he hs
   split at ht
   ·rename_i hg
    cases ht
    refine ⟨?_,hg⟩
    simp only [sizeT,Option.map_eq_some_iff] at hs
    obtain ⟨i,hi,hsz⟩ := hs
    simp only [SV.den]
    rw [run_equalIn_array w 9999 _ _ hu hi]
    have hc : P.cellsOf e = 1 := by simp [Program.cellsOf,hi,hsz]
    rw [hc]
    exact eqIs_spec 9998 he h
   ·cases ht
  ·cases ht
 ·cases ht

theorem binR_spec {C : Ctx} {m : Mem} {E : Env} {H : HV} {w : World} (g : Good C m E H w) {op : BinOp} {t : TypeId} {a b : SV} (ha : a.Ok H)
  {ps : List Prop} {v : SV} (h : binR P m op t a b = some (ps,v)) (hp : ∀ p,p ∈ ps → p) (x y : Operand) :
  (do eqGuard op t x y (a.den E) (b.den E); binOp op t (a.den E) (b.den E) : Sem Value).run P w = .ok (v.den E) w ∧ v.Ok H := by
 have vok : v.Ok H := by
  unfold binR at h
  repeat' split at h
  all_goals first | (cases h; done) | (cases h; simp [SV.Ok]) | (simp only [Option.map_eq_some_iff,Prod.mk.injEq] at h; obtain ⟨_,_,_,rfl⟩ := h; simp [SV.Ok])
 refine ⟨?_,vok⟩
 have base : (∀ cs,a.den E ≠ .agg cs) ∧ a.den E ≠ .nilIface → (binOp op t (a.den E) (b.den E)).run P w = .ok (v.den E) w →
   (do eqGuard op t x y (a.den E) (b.den E); binOp op t (a.den E) (b.den E) : Sem Value).run P w = .ok (v.den E) w := by
  intro hn hr
  simp only [Sem.run_bind,eqGuard_plain w op t x y _ _ hn.1 hn.2,Result.andThen_ok,hr]
 unfold binR at h
 split at h
 ·rename_i k x' k' y'
  split at h
  ·rename_i hk
   subst hk
   refine base ⟨by simp [SV.den],by simp [SV.den]⟩ ?_
   simp only [SV.den]
   exact run_binOp_int w op t k x' y' ps v E m (by simp only [binR,if_true]; exact h) hp
  ·cases h
 ·rename_i x' y'
  refine base ⟨by simp [SV.den],by simp [SV.den]⟩ ?_
  split at h
  ·cases h; simp [SV.den,binOp,Op.stringOp]
  ·cases h; simp [SV.den,binOp,Op.stringOp]
  ·cases h
 ·rename_i xs ys
  split at h
  ·rename_i fs ht
   split at h
   ·rename_i hc
    simp only [Option.map_eq_some_iff,Prod.mk.injEq] at h
    obtain ⟨b',hb,rfl,rfl⟩ := h
    have := run_structEq (P := P) (w := w) (E := E) ht hc.1 hb
    simp only [SV.den] at this ⊢
    simp only [Sem.run_bind,run_eqGuard_agg w _ t x y _ _ hc.2,Result.andThen_ok,run_eql_struct,this]
   ·cases h
  ·rename_i fs ht
   split at h
   ·rename_i hc
    simp only [Option.map_eq_some_iff,Prod.mk.injEq] at h
    obtain ⟨b',hb,rfl,rfl⟩ := h
    have := run_structEq (P := P) (w := w) (E := E) ht hc.1 hb
    simp only [SV.den] at this ⊢
    simp only [Sem.run_bind,run_eqGuard_agg w _ t x y _ _ hc.2,Result.andThen_ok,run_neq_struct,this]
   ·cases h
  ·split at h
   ·rename_i n ht
    simp only [Option.map_eq_some_iff,Prod.mk.injEq] at h
    obtain ⟨b',hb,rfl,rfl⟩ := h
    obtain ⟨h1,h2⟩ := run_arrEq (P := P) (w := w) (E := E) ht hb
    simp only [SV.den] at h1 ⊢
    simp only [Sem.run_bind,run_eqGuard_agg w _ t x y _ _ h2,Result.andThen_ok,run_eql_struct,h1]
   ·cases h
  ·split at h
   ·rename_i n ht
    simp only [Option.map_eq_some_iff,Prod.mk.injEq] at h
    obtain ⟨b',hb,rfl,rfl⟩ := h
    obtain ⟨h1,h2⟩ := run_arrEq (P := P) (w := w) (E := E) ht hb
    simp only [SV.den] at h1 ⊢
    simp only [Sem.run_bind,run_eqGuard_agg w _ t x y _ _ h2,Result.andThen_ok,run_neq_struct,h1]
   ·cases h
  ·cases h
 ·split at h
  ·rename_i e d ht hd
   cases h
   obtain ⟨hv,hr,_⟩ := dataOf_spec g ha hd
   have hlen : d.hd = none → d.len = 0 := by
    intro hn
    rcases hr.2 with ⟨_,h0⟩ | ⟨a,c,h1,_⟩
    ·simp [D.len,h0]
    ·rw [hv,hn] at h1; simp [hval] at h1
   rw [nilOf_eq hlen] at base ⊢
   rw [hv]
   have hna := hval_agg d.hd d.len
   rw [hv] at base
   refine base hna ?_
   simp only [SV.den]
   cases hh : d.hd with
   | none=>simpa [hval,D.isNil,hh] using run_eql_slice_nil w t e none 0 0 ht
   | some q=>simpa [hval,D.isNil,hh] using run_eql_slice_nil w t e (some q.1) d.len q.2 ht
  ·rename_i e d ht hd
   cases h
   obtain ⟨hv,hr,_⟩ := dataOf_spec g ha hd
   have hlen : d.hd = none → d.len = 0 := by
    intro hn
    rcases hr.2 with ⟨_,h0⟩ | ⟨a,c,h1,_⟩
    ·simp [D.len,h0]
    ·rw [hv,hn] at h1; simp [hval] at h1
   rw [nilOf_eq hlen] at base ⊢
   rw [hv]
   have hna := hval_agg d.hd d.len
   rw [hv] at base
   refine base hna ?_
   simp only [SV.den]
   cases hh : d.hd with
   | none=>simpa [hval,D.isNil,hh] using run_neq_slice_nil w t e none 0 0 ht
   | some q=>simpa [hval,D.isNil,hh] using run_neq_slice_nil w t e (some q.1) d.len q.2 ht
  ·cases h
 ·split at h
  ·rename_i p q ht hp' hq
   cases h
   rw [toB_den E hp',toB_den E hq] at *
   exact base ⟨by simp,by simp⟩ (by simpa [SV.den] using run_eql_bool (P := P) w t _ _ ht)
  ·rename_i p q ht hp' hq
   cases h
   rw [toB_den E hp',toB_den E hq] at *
   exact base ⟨by simp,by simp⟩ (by simpa [SV.den] using run_neq_bool (P := P) w t _ _ ht)
  ·cases h

theorem unR_spec {E : Env} {H : HV} {w : World} {op : UnOp} {a v : SV} (h : unR op a = some v) : (Op.unary op (a.den E)).run P w = .ok (v.den E) w ∧ v.Ok H := by
 cases a <;> simp only [unR] at h <;> try cases h
 all_goals
  cases op <;> simp only [Option.some.injEq,reduceCtorEq] at h
  subst h
  exact ⟨by simp [SV.den,Op.unary,Op.intArith],by simp [SV.Ok]⟩

theorem shift_spec {E : Env} {H : HV} {o : Nat} {a v : SV} (h : a.shift o = some v) (ha : a.Ok H) :
  v.Ok H ∧ ∃ ad,a.den E = .pointer (some ad) ∧ v.den E = .pointer (some (ad.add o)) := by
 cases a <;> simp only [SV.shift,Option.some.injEq,reduceCtorEq] at h <;> subst h
 ·exact ⟨by simp [SV.Ok],_,rfl,by simp [SV.den,add_none]⟩
 ·exact ⟨by simpa [SV.Ok] using ha,_,rfl,by simp [SV.den,add_none,Nat.add_assoc]⟩
 ·exact ⟨by simp [SV.Ok],_,rfl,by simp [SV.den,add_none,Nat.add_assoc]⟩

theorem fieldR_spec {E : Env} {H : HV} {w : World} {s : TypeId} {x v : SV} {f : Nat} (h : fieldR P s x f = some v) (hx : x.Ok H) :
  (Instr.fieldAt s (x.den E) f).run P w = .ok (v.den E) w ∧ v.Ok H := by
 unfold fieldR at h
 split at h
 ·rename_i fs hs
  split at h
  ·rename_i fd hf
   split at h
   ·rename_i n hn
    obtain ⟨hv,ad,h1,h2⟩ := shift_spec (E := E) h hx
    refine ⟨?_,hv⟩
    simp [Instr.fieldAt,run_underlying hs,hf,h1,Instr.sureAddr,fieldPlace,run_sizeOf hn,h2]
   ·cases h
  ·cases h
 ·cases h

theorem run_indexAt {w : World} {t e : TypeId} {a : Addr} {len c s : Nat} {k : IntKind} {i : Int} (ht : P.underlying t = some (.slice e)) (hs : sizeT P e = some s) (h0 : 0 ≤ i) (h1 : i < len) :
  (Instr.indexAt t (.slice (some a) len c) (.int k i)).run P w = .ok (.pointer (some (a.add (i.toNat * s)))) w := by
 simp [Instr.indexAt,asIntOf,run_underlying ht,run_sizeOf hs,h0,h1]

theorem run_indexArr {w : World} {t e : TypeId} {a : Addr} {len s : Nat} {k : IntKind} {i : Int} (ht : P.underlying t = some (.array len e)) (hs : sizeT P e = some s) (h0 : 0 ≤ i) (h1 : i < len) :
  (Instr.indexAt t (.pointer (some a)) (.int k i)).run P w = .ok (.pointer (some (a.add (i.toNat * s)))) w := by
 simp [Instr.indexAt,Instr.sureAddr,asIntOf,run_underlying ht,run_sizeOf hs,h0,h1]

theorem indexR0_spec {C : Ctx} {m : Mem} {E : Env} {H : HV} {w : World} (g : Good C m E H w) {t : TypeId} {x i : SV} (hx : x.Ok H) {ps : List Prop} {v : SV}
  (h : indexR0 P m t x i = some (ps,v)) (hp : ∀ p,p ∈ ps → p) : (Instr.indexAt t (x.den E) (i.den E)).run P w = .ok (v.den E) w ∧ v.Ok H := by
 unfold indexR0 at h
 split at h
 ·rename_i k n
  split at h
  ·rename_i e ht
   split at h
   ·rename_i s d hs hd
    obtain ⟨hv,hr,hrok,hshut⟩ := dataOf_spec g hx hd
    have main : ∀ v',v' = v → (0 ≤ n ∧ n < d.len ∧ d.sz = s) → (v' = .elt d n.toNat 0 ∧ (shut m x = true) ∨ ∃ j,x = .vec j ∧ shut m x = false ∧ v' = .velt j s n.toNat 0) →
      (Instr.indexAt t (x.den E) ((SV.int k n).den E)).run P w = .ok (v.den E) w ∧ v.Ok H := by
     intro v' hvv ⟨h0,h1,h2⟩ hcase
     subst hvv
     have hne : d.hd ≠ none := by
      intro hn
      obtain ⟨a,b,c,rfl⟩ := dataOf_slc g hx hd
      simp only [D.hd] at hn
      subst hn
      have hn2 : c = [] := by
       rcases hr.2 with ⟨_,h3⟩ | ⟨a',c',h3,_⟩
       ·exact h3
       ·rw [hv] at h3; simp [hval,D.hd] at h3
      subst hn2
      simp [D.len,D.rows] at h1; omega
     cases hh : d.hd with
     | none=>exact absurd hh hne
     | some q =>
      obtain ⟨a,c⟩ := q
      rw [hv,hh]
      simp only [hval]
      have hrun := run_indexAt (w := w) (k := k) (a := a) (c := c) ht hs h0 h1
      simp only [SV.den]
      rw [hrun]
      rcases hcase with ⟨rfl,hsh⟩ | ⟨j,rfl,hsh,rfl⟩
      ·have hok := hshut hsh
       refine ⟨?_,hok⟩
       cases hok with
       | slc a' c' sz rows hsp _ _ _ _ =>
        simp only [D.hd,Option.some.injEq,Prod.mk.injEq] at hh
        obtain ⟨rfl,rfl⟩ := hh
        simp only [D.sz] at h2
        have hsp' := hsp (fun h0=>by subst h0; simp [D.len,D.rows] at h1; omega)
        simp [SV.den,D.addr,D.hd,add_none hsp',D.sz,h2]
       | _=>simp [D.hd] at hh
      ·refine ⟨?_,by simp [SV.Ok]⟩
       simp only [dataOf] at hd
       cases hk : m.get j with
       | none=>simp [hk] at hd
       | some o =>
        cases o with
        | arr e' d' =>
         simp only [hk,Option.some.injEq] at hd
         subst hd
         obtain ⟨h',sz,rows,rfl,hv',_,_,_,ha⟩ := g.own j _ (Mem.get_mem hk)
         simp only [D.hd] at hh
         obtain ⟨rfl,_⟩ := ha a c hh
         simp [SV.den,add_none]
        | pub d'=>simp [shut,hk] at hsh
        | cells _ _=>simp [hk] at hd
        | map _=>simp [hk] at hd
        | mapD _ _ _ _=>simp [hk] at hd
    split at h
    ·rename_i j
     split at h
     ·rename_i hsh
      cases h
      exact main _ rfl (hp _ (List.mem_singleton.2 rfl)) (.inl ⟨rfl,hsh⟩)
     ·rename_i hsh
      cases h
      exact main _ rfl (hp _ (List.mem_singleton.2 rfl)) (.inr ⟨j,rfl,by simpa using hsh,rfl⟩)
    ·rename_i hnv
     cases h
     refine main _ rfl (hp _ (List.mem_singleton.2 rfl)) (.inl ⟨rfl,?_⟩)
     cases x with
     | vec j=>exact absurd rfl (hnv j)
     | nils=>rfl
     | dat _=>rfl
     | _=>simp [dataOf] at hd
   ·cases h
  ·rename_i len e ht
   split at h
   ·rename_i s hs
    split at h
    ·cases h
     obtain ⟨h0,h1⟩ := hp _ (List.mem_singleton.2 rfl)
     refine ⟨?_,by simp [SV.Ok]⟩
     simp only [SV.den]
     rw [run_indexArr ht hs h0 h1,add_none rfl]
    ·cases h
     obtain ⟨h0,h1⟩ := hp _ (List.mem_singleton.2 rfl)
     refine ⟨?_,hx⟩
     simp only [SV.den]
     rw [run_indexArr ht hs h0 h1,add_none rfl]
     simp only [Nat.add_assoc]
    ·cases h
   ·cases h
  ·cases h
 ·cases h

theorem pubR_spec {C : Ctx} {m : Mem} {E : Env} {H : HV} {w : World} (g : Good C m E H w) (x : SV) :
  ∃ H',HLe H H' ∧ Good C (pubR m x) E H' w ∧ (∀ d,dataOf m x = some d → x.Ok H → d.Ok H') ∧
   (∀ b o v,H' b o = some v → H b o = some v ∨ ∃ k o,(k,o) ∈ m ∧ o.Lies ∧ E.b k = b) := by
 unfold pubR
 split
 ·rename_i k
  split
  ·rename_i e d hk
   obtain ⟨H',h1,h2,h3,h4⟩ := g.publish hk
   refine ⟨H',h1,h2,fun d' hd _=>?_,fun b o v hb=>?_⟩
   ·simp only [dataOf,hk,Option.some.injEq] at hd; subst hd; exact h3
   ·rcases h4 b o v hb with h | ⟨p,q,r,s⟩
    ·exact .inl h
    ·exact .inr ⟨k,p,q,r,s.symm⟩
  ·rename_i hk
   refine ⟨H,HLe.refl H,g,fun d hd _=>?_,fun b o v hb=>.inl hb⟩
   simp only [dataOf] at hd
   cases hk2 : m.get k with
   | none=>simp [hk2] at hd
   | some o =>
    cases o with
    | arr e d'=>exact absurd hk2 (hk e d')
    | pub d'=>simp only [hk2,Option.some.injEq] at hd; subst hd; exact (g.own k _ (Mem.get_mem hk2)).2
    | cells _ _=>simp [hk2] at hd
    | map _=>simp [hk2] at hd
    | mapD _ _ _ _=>simp [hk2] at hd
 ·rename_i hnv
  refine ⟨H,HLe.refl H,g,fun d hd hx=>?_,fun b o v hb=>.inl hb⟩
  cases x with
  | vec k=>exact absurd rfl (hnv k)
  | nils=>simp only [dataOf,Option.some.injEq] at hd; subst hd; exact .nil 0
  | dat d'=>simp only [dataOf,Option.some.injEq] at hd; subst hd; exact hx.1
  | _=>simp [dataOf] at hd

theorem pubR_mem {m : Mem} {x : SV} : ∀ k o,(k,o) ∈ pubR m x → (∃ o',(k,o') ∈ m) ∧ (o.Lies → (k,o) ∈ m) := by
 intro k o h
 unfold pubR at h
 split at h
 ·rename_i j
  split at h
  ·rename_i e d hk
   have key : ∀ (m : Mem),(k,o) ∈ m.set j (.pub d) → (∃ o',(k,o') ∈ m) ∧ (o.Lies → (k,o) ∈ m) := by
    intro m
    induction m with
    | nil=>intro h; cases h
    | cons y r ih =>
     obtain ⟨i,p⟩ := y
     intro h
     simp only [Mem.set] at h
     split at h
     ·rename_i hi
      simp at hi
      rcases List.mem_cons.1 h with h | h
      ·cases h; exact ⟨⟨p,by rw [hi]; simp⟩,fun hl=>hl.elim⟩
      ·exact ⟨⟨o,List.mem_cons_of_mem _ h⟩,fun _=>List.mem_cons_of_mem _ h⟩
     ·rcases List.mem_cons.1 h with h | h
      ·cases h; exact ⟨⟨_,List.mem_cons_self⟩,fun _=>List.mem_cons_self⟩
      ·obtain ⟨⟨o',h1⟩,h2⟩ := ih h
       exact ⟨⟨o',List.mem_cons_of_mem _ h1⟩,fun hl=>List.mem_cons_of_mem _ (h2 hl)⟩
   exact key m h
  ·exact ⟨⟨o,h⟩,fun _=>h⟩
 ·exact ⟨⟨o,h⟩,fun _=>h⟩
theorem sub_ok {H : HV} {d : D} (hd : d.Ok H) {l h : Nat} (h1 : l ≤ h) (h2 : h ≤ d.len) : (d.sub l h).Ok H ∧ (d.sub3 l h).Ok H := by
  cases hd with
  | slc a c sz rows hsp hc hlen hcell hok =>
    simp only [D.len,D.rows] at h2
    by_cases hr0 : rows = []
    · subst hr0
      have e : ∀ (a' : Addr) (c' : Nat),(D.slc (some (a',c')) sz []).Ok H := fun a' c'=>.slc a' c' sz [] (fun h=>absurd rfl h) (Nat.zero_le _) (by simp) (by simp) (by simp)
      exact ⟨by simpa [D.sub,D.hd,D.sz,D.rows] using e _ _,by simpa [D.sub3,D.hd,D.sz,D.rows] using e _ _⟩
    replace hsp := hsp hr0
    have hl : ((rows.drop l).take (h - l)).length = h - l := by rw [List.length_take,List.length_drop]; omega
    have key : ∀ (a' : Addr) (c' : Nat),a'.spot = none → a'.block = a.block → (h - l = 0 ∨ a'.off = a.off + l * sz) → h - l ≤ c' →
        (D.slc (some (a',c')) sz ((rows.drop l).take (h - l))).Ok H := by
      intro a' c' e1 e2 e3 e4
      refine .slc a' c' sz _ (fun _=>e1) (by rw [hl]; exact e4) (fun r hr=>hlen r (List.mem_of_mem_drop (List.mem_of_mem_take hr))) (fun i j r x p q=>?_) (fun r hr=>hok r (List.mem_of_mem_drop (List.mem_of_mem_take hr)))
      rw [List.getElem?_take] at p
      split at p
      · rename_i hi
        rw [List.getElem?_drop] at p
        have := hcell (l + i) j r x p q
        rcases e3 with e3 | e3
        · omega
        · rw [e2,e3]
          rw [show a.off + l * sz + i * sz + j = a.off + (l + i) * sz + j from by rw [Nat.add_mul]; omega]
          exact this
      · cases p
    constructor
    · simp only [D.sub,D.hd,D.sz,D.rows,Option.map_some]
      refine key _ _ ?_ ?_ ?_ (by omega)
      · split <;> simp [hsp,add_none hsp]
      · split <;> simp [add_none hsp]
      · split
        · rename_i hcl; left; omega
        · right; simp [add_none hsp]
    · simp only [D.sub3,D.hd,D.sz,D.rows,Option.map_some]
      refine key _ _ ?_ ?_ ?_ (Nat.le_refl _)
      · split <;> simp [hsp,add_none hsp]
      · split <;> simp [add_none hsp]
      · split
        · rename_i hcl; left; omega
        · right; simp [add_none hsp]
  | nil sz =>
    simp only [D.len,D.rows,List.length_nil] at h2
    have : l = 0 := by omega
    have : h = 0 := by omega
    subst l; subst h
    exact ⟨.nil sz,.nil sz⟩
  | int k n => simp [D.len, D.rows] at h2; have : l = 0 := by omega
               subst h2; subst this; exact ⟨.nil 0,.nil 0⟩
  | bool b => simp [D.len, D.rows] at h2; have : l = 0 := by omega
              subst h2; subst this; exact ⟨.nil 0,.nil 0⟩
  | str s => simp [D.len, D.rows] at h2; have : l = 0 := by omega
             subst h2; subst this; exact ⟨.nil 0,.nil 0⟩
theorem view_dat {C : Ctx} {m : Mem} {E : Env} {H : HV} {w : World} (g : Good C m E H w) {k s lo n : Nat} {e : TypeId} {d : D} (hg : m.get k = some (.arr e d)) (hlo : lo + n ≤ d.len) (hsz : d.sz = s) :
  (SV.view k s lo n).den E = (SV.dat (d.sub lo (lo + n))).den E ∧ ∃ H',Good C (m.set k (.pub d)) E H' w ∧ (SV.dat (d.sub lo (lo + n))).Ok H' := by
 obtain ⟨H',hle,g1,dok,_⟩ := g.publish hg
 obtain ⟨hd,sz,rows,rfl,hv,_⟩ := g.own k _ (Mem.get_mem hg)
 have hsub := (sub_ok dok (l := lo) (h := lo + n) (by omega) hlo).1
 refine ⟨?_,H',g1,hsub,_,_,_,rfl⟩
 simp only [D.len,D.rows] at hlo
 simp only [D.sz] at hsz
 subst hsz
 have e2 : ((rows.drop lo).take n).length = n := by rw [List.length_take,List.length_drop]; omega
 simp only [SV.den,hv,D.sub,D.val,D.hd,D.rows,D.sz,Nat.add_sub_cancel_left,e2]
 rfl
theorem arr_facts {C : Ctx} {m : Mem} {E : Env} {H : HV} {w : World} (g : Good C m E H w) {k : Nat} {e : TypeId} {hd : Hd} {sz : Nat} {rows : List (List D)} (hg : m.get k = some (.arr e (.slc hd sz rows))) :
  (E.v k = (hd,rows.length)) ∧ (hd = none → rows = []) ∧ (∀ a c,hd = some (a,c) → a = ⟨E.b k,0,none⟩ ∧ rows.length ≤ c) := by
 obtain ⟨hd',sz',rows',heq,hv,how,hl,hk2,ha⟩ := g.own k _ (Mem.get_mem hg)
 cases heq
 refine ⟨hv,fun h=>?_,fun a c h=>⟨(ha a c h).1,?_⟩⟩
 ·subst h
  rcases how.2 with ⟨_,h0⟩ | ⟨g',cap,cur,h3,_⟩
  ·exact List.eq_nil_of_length_eq_zero h0
  ·simp [D.val,hval] at h3
 ·subst h
  rcases how.2 with ⟨h3,_⟩ | ⟨g',cap,cur,h3,_,_,h5,_⟩
  ·simp [D.val,hval] at h3
  ·simp only [D.val,hval,Value.slice.injEq] at h3
   omega

theorem indexV_spec {C : Ctx} {m : Mem} {E : Env} {H : HV} {w : World} (g : Good C m E H w) {t : TypeId} {k s lo n : Nat} {i : SV} {ps : List Prop} {v : SV}
  (h : indexV P m t k s lo n i = some (ps,v)) (hp : ∀ p,p ∈ ps → p) : (Instr.indexAt t ((SV.view k s lo n).den E) (i.den E)).run P w = .ok (v.den E) w ∧ v.Ok H := by
 unfold indexV at h
 split at h
 ·rename_i kd q e e' d ht hg
  split at h
  ·rename_i s' hs
   split at h
   ·rename_i hss
    subst hss
    cases h
    obtain ⟨p1,p2,p3,p4⟩ := hp _ (List.mem_singleton.2 rfl)
    refine ⟨?_,by simp [SV.Ok]⟩
    obtain ⟨hd,sz,rows,rfl,_⟩ := g.own k _ (Mem.get_mem hg)
    obtain ⟨hv,f1,f2⟩ := arr_facts g hg
    simp only [D.len,D.rows] at p1
    cases hd with
    | none=>rw [f1 rfl] at p1; simp at p1; omega
    | some ac =>
     obtain ⟨a,c⟩ := ac
     obtain ⟨rfl,hcap⟩ := f2 a c rfl
     have hne : ¬ c = lo := by omega
     have hrun := run_indexAt (P := P) (w := w) (k := kd) (a := (⟨E.b k,0,none⟩ : Addr).add (lo * s')) (len := n) (c := c - lo) ht hs p2 p3
     simp only [SV.den,hv,viewHd,Option.map_some,if_neg hne,hval]
     rw [hrun]
     simp [add_none,Nat.add_mul]
   ·cases h
  ·cases h
 ·cases h

theorem indexS_spec {E : Env} {H : HV} {w : World} {t : TypeId} {k n : Nat} {i : SV} {ps : List Prop} {v : SV}
  (h : indexS P t k n i = some (ps,v)) (hp : ∀ p,p ∈ ps → p) : (Instr.indexAt t ((SV.sl k n).den E) (i.den E)).run P w = .ok (v.den E) w ∧ v.Ok H := by
 unfold indexS at h
 split at h
 ·rename_i kd q e ht
  split at h
  ·rename_i s hs
   cases h
   obtain ⟨p2,p3⟩ := hp _ (List.mem_singleton.2 rfl)
   refine ⟨?_,by simp [SV.Ok]⟩
   have hrun := run_indexAt (P := P) (w := w) (k := kd) (a := (⟨E.b k,0,none⟩ : Addr)) (len := n) (c := n) ht hs p2 p3
   simp only [SV.den]
   rw [hrun]
   simp [add_none]
  ·cases h
 ·cases h

theorem indexR_spec {C : Ctx} {m : Mem} {E : Env} {H : HV} {w : World} (g : Good C m E H w) {t : TypeId} {x i : SV} (hx : x.Ok H) {ps : List Prop} {v : SV}
  (h : indexR P m t x i = some (ps,v)) (hp : ∀ p,p ∈ ps → p) : (Instr.indexAt t (x.den E) (i.den E)).run P w = .ok (v.den E) w ∧ v.Ok H := by
 unfold indexR at h
 split at h
 ·exact indexV_spec g h hp
 ·exact indexS_spec h hp
 ·exact indexR0_spec g hx h hp
end
end Sx
end
noncomputable section
namespace Sx
open Go RowKit

section
variable {P : Program}

theorem run_bound (w : World) (k : IntKind) (i : Int) (y : Nat) (code : BoundsCode) (h0 : 0 ≤ i) (h1 : i ≤ y) :
  (Instr.sliceBound (.int k i) y code).run P w = .ok i.toNat w := by
 simp [Instr.sliceBound,asIntOf,h0,h1]

theorem run_bounds (w : World) (len cap : Nat) (lo hi : Option SV) (E : Env) (l h : Int) (hlo : boundR lo 0 = some l) (hhi : boundR hi len = some h)
  (h0 : 0 ≤ l) (h1 : l ≤ h) (h2 : h ≤ len) (h3 : len ≤ cap) :
  (Instr.sliceBounds true len cap (lo.map (SV.den E)) (hi.map (SV.den E)) none).run P w = .ok (l.toNat,h.toNat,cap) w := by
 have hh : (0 : Int) ≤ h := by omega
 have e : ((h.toNat : Nat) : Int) = h := Int.toNat_of_nonneg hh
 have hb : ∀ (x : SV) (n : Nat) (q : Int),boundR (some x) n = some q → ∃ k,x = .int k q := by
  intro x n q hq
  cases x <;> simp [boundR] at hq
  subst hq; exact ⟨_,rfl⟩
 cases hi with
 | none =>
  simp only [boundR,Option.some.injEq] at hhi
  cases lo with
  | none =>
   simp only [boundR,Option.some.injEq] at hlo
   subst hlo; subst hhi
   simp [Instr.sliceBounds]
  | some x =>
   obtain ⟨k,rfl⟩ := hb x 0 l hlo
   subst hhi
   simp [Instr.sliceBounds,SV.den,run_bound w k l _ _ h0 (by omega)]
 | some y =>
  obtain ⟨k',rfl⟩ := hb y len h hhi
  have b1 : ∀ code,(Instr.sliceBound (.int k' h) cap code).run P w = .ok h.toNat w := fun code=>run_bound w k' h cap code hh (by omega)
  cases lo with
  | none =>
   simp only [boundR,Option.some.injEq] at hlo
   subst hlo
   simp [Instr.sliceBounds,SV.den,b1]
  | some x =>
   obtain ⟨k,rfl⟩ := hb x 0 l hlo
   simp [Instr.sliceBounds,SV.den,b1,run_bound w k l h.toNat .sliceB h0 (by omega)]

theorem run_bounds3 (w : World) (len cap : Nat) (lo : Option SV) (k' k'' : IntKind) (E : Env) (l h : Int) (hlo : boundR lo 0 = some l)
  (h0 : 0 ≤ l) (h1 : l ≤ h) (h2 : h ≤ len) (h3 : len ≤ cap) :
  (Instr.sliceBounds true len cap (lo.map (SV.den E)) (some (.int k' h)) (some (.int k'' h))).run P w = .ok (l.toNat,h.toNat,h.toNat) w := by
 have hh : (0 : Int) ≤ h := by omega
 have e : ((h.toNat : Nat) : Int) = h := Int.toNat_of_nonneg hh
 have b1 : ∀ code,(Instr.sliceBound (.int k'' h) cap code).run P w = .ok h.toNat w := fun code=>run_bound w k'' h cap code hh (by omega)
 have b2 : ∀ code,(Instr.sliceBound (.int k' h) h.toNat code).run P w = .ok h.toNat w := fun code=>run_bound w k' h h.toNat code hh (by omega)
 cases lo with
 | none =>
  simp only [boundR,Option.some.injEq] at hlo
  subst hlo
  simp [Instr.sliceBounds,b1,b2]
 | some x =>
  cases x <;> simp [boundR] at hlo
  subst hlo
  rename_i k q
  simp [Instr.sliceBounds,SV.den,b1,b2,run_bound w k q h.toNat .slice3C h0 (by omega)]

theorem subR_spec {C : Ctx} {m m' : Mem} {E : Env} {H : HV} {w : World} (g : Good C m E H w) {t : TypeId} {x : SV} {lo hi mx : Option SV} (hx : x.Ok H)
  {ps : List Prop} {v : SV} (h : subR P m t x lo hi mx = some (ps,v,m')) (hp : ∀ p,p ∈ ps → p) :
  ∃ H',HLe H H' ∧ Good C m' E H' w ∧ (Instr.sliceAt t (x.den E) (lo.map (SV.den E)) (hi.map (SV.den E)) (mx.map (SV.den E))).run P w = .ok (v.den E) w ∧ v.Ok H' ∧
   (∀ b o v,H' b o = some v → H b o = some v ∨ ∃ k o,(k,o) ∈ m ∧ o.Lies ∧ E.b k = b) ∧ (m' = pubR m x) := by
 unfold subR at h
 split at h
 ·rename_i e ht
  split at h
  ·rename_i s d hs hd
   obtain ⟨hv,hr,_,_⟩ := dataOf_spec g hx hd
   obtain ⟨H',hle,g',hdok,hnew⟩ := pubR_spec g x
   have hdo := hdok d hd hx
   have hlen : d.hd = none → d.len = 0 := by
    intro hn
    rcases hr.2 with ⟨_,h0⟩ | ⟨a,c,h1,_⟩
    ·simp [D.len,h0]
    ·rw [hv,hn] at h1; simp [hval] at h1
   have hcap : ∀ a c,d.hd = some (a,c) → d.len ≤ c := by
    intro a c hac
    cases hdo with
    | slc a' c' sz rows hsp hc _ _ _=>simp only [D.hd,Option.some.injEq,Prod.mk.injEq] at hac; obtain ⟨_,rfl⟩ := hac; exact hc
    | _=>simp [D.hd] at hac
   have hfit : ∀ l : Nat,l ≤ d.len → d.Fits s → l * d.sz = l * s := by
    intro l hl hf
    rcases hf with h0 | h0
    ·have : l = 0 := by simp only [D.len,h0,List.length_nil] at hl; omega
     subst this; simp
    ·rw [h0]
   split at h
   ·rename_i l h' hl hh
    cases h
    obtain ⟨p0,p1,p2,p3⟩ := hp _ (List.mem_singleton.2 rfl)
    have hsub := sub_ok hdo (l := l.toNat) (h := h'.toNat) (by omega) (by omega)
    refine ⟨H',hle,g',?_,⟨hsub.1,⟨_,_,_,rfl⟩⟩,hnew,rfl⟩
    have hlr : ((d.rows.drop l.toNat).take (h'.toNat - l.toNat)).length = h'.toNat - l.toNat := by
     simp only [D.len] at p2; rw [List.length_take,List.length_drop]; omega
    rw [hv]
    cases hh2 : d.hd with
    | none =>
     have h0 := hlen hh2
     have e1 : l = 0 := by omega
     have e2 : h' = 0 := by omega
     subst e1; subst e2
     rw [h0] at hh
     have hb := run_bounds (P := P) w 0 0 lo hi E 0 0 hl hh (by omega) (by omega) (by omega) (Nat.le_refl _)
     simp only [hval,Instr.sliceAt,Instr.slice,Sem.run_bind,run_underlying ht,Result.andThen_ok,Option.map_none,hb,run_sizeOf hs]
     simp [SV.den,D.sub,D.val,hh2,hval]
    | some q =>
     obtain ⟨a,c⟩ := q
     have hb := run_bounds (P := P) w d.len c lo hi E l h' hl hh p0 p1 p2 (hcap a c hh2)
     simp only [hval,Instr.sliceAt,Instr.slice,Sem.run_bind,run_underlying ht,Result.andThen_ok,Option.map_none,hb,run_sizeOf hs]
     have hf := hfit l.toNat (by omega) p3
     simp only [SV.den,D.sub,D.val,hh2,Option.map_some,hval,hlr,hf,Sem.run_pure]
     split <;> rfl
   ·rename_i l h' k q hl hh
    split at h
    ·rename_i y
     cases h
     obtain ⟨p0,p1,p2,rfl,p3⟩ := hp _ (List.mem_singleton.2 rfl)
     have hsub := sub_ok hdo (l := l.toNat) (h := q.toNat) (by omega) (by omega)
     refine ⟨H',hle,g',?_,⟨hsub.2,⟨_,_,_,rfl⟩⟩,hnew,rfl⟩
     have hlr : ((d.rows.drop l.toNat).take (q.toNat - l.toNat)).length = q.toNat - l.toNat := by
      simp only [D.len] at p2; rw [List.length_take,List.length_drop]; omega
     have hy : ∃ k',y = .int k' q := by
      cases y <;> simp [boundR] at hh
      subst hh; exact ⟨_,rfl⟩
     obtain ⟨k',rfl⟩ := hy
     rw [hv]
     cases hh2 : d.hd with
     | none =>
      have h0 := hlen hh2
      have e1 : l = 0 := by omega
      have e2 : q = 0 := by omega
      subst e1; subst e2
      have hb := run_bounds3 (P := P) w 0 0 lo k' k E 0 0 hl (by omega) (by omega) (by omega) (Nat.le_refl _)
      simp only [hval,Instr.sliceAt,Instr.slice,Sem.run_bind,run_underlying ht,Result.andThen_ok,Option.map_some,SV.den,hb,run_sizeOf hs]
      simp [D.sub3,D.val,hh2,hval]
     | some r =>
      obtain ⟨a,c⟩ := r
      have hb := run_bounds3 (P := P) w d.len c lo k' k E l q hl p0 p1 p2 (hcap a c hh2)
      simp only [hval,Instr.sliceAt,Instr.slice,Sem.run_bind,run_underlying ht,Result.andThen_ok,Option.map_some,SV.den,hb,run_sizeOf hs]
      have hf := hfit l.toNat (by omega) p3
      simp only [D.sub3,D.val,hh2,Option.map_some,hval,hlr,hf,Sem.run_pure]
      split <;> rfl
    ·cases h
   ·cases h
  ·cases h
 ·cases h

theorem splice_get {α : Type} (cs vs : List α) (a b i : Nat) (h : a ≤ cs.length) :
  (cs.take a ++ vs ++ cs.drop b)[i]? = if i < a then cs[i]? else if i < a + vs.length then vs[i - a]? else cs[i - (a + vs.length) + b]? := by
 have hl : (cs.take a).length = a := by simp [h]
 rw [List.append_assoc]
 split
 ·rename_i h1
  rw [List.getElem?_append_left (by omega),List.getElem?_take,if_pos h1]
 ·rename_i h1
  rw [List.getElem?_append_right (by omega),hl]
  split
  ·rename_i h2
   rw [List.getElem?_append_left (by omega)]
  ·rename_i h2
   rw [List.getElem?_append_right (by omega),List.getElem?_drop]
   congr 1; omega
theorem fold_splice' (vs : List Value) : ∀ (n off : Nat) (cs : List Value),off + n + vs.length ≤ cs.length →
  (vs.zipIdx n).foldl (fun (cs : Array Value) (x : Value × Nat)=>cs.setIfInBounds (off + x.2) x.1) cs.toArray = (cs.take (off + n) ++ vs ++ cs.drop (off + n + vs.length)).toArray := by
 induction vs with
 | nil=>intro n off cs h; simp
 | cons v r ih =>
  intro n off cs h
  have h1 : off + n < cs.length := by simp at h; omega
  simp only [List.zipIdx_cons,List.foldl_cons,List.setIfInBounds_toArray]
  have := ih (n + 1) off (cs.set (off + n) v) (by simp at h ⊢; omega)
  rw [this]
  congr 1
  apply List.ext_getElem?
  intro i
  rw [splice_get _ _ _ _ _ (by simp; omega),splice_get _ _ _ _ _ (by omega)]
  simp only [List.length_cons]
  by_cases c1 : i < off + n
  ·rw [if_pos (by omega),if_pos c1,List.getElem?_set_ne (by omega)]
  ·by_cases c2 : i = off + n
   ·subst c2
    rw [if_pos (by omega),if_neg c1,if_pos (by omega),List.getElem?_set_self (by omega)]
    simp
   ·rw [if_neg (by omega),if_neg c1]
    by_cases c3 : i < off + (n + 1) + r.length
    ·rw [if_pos c3,if_pos (by omega),show i - (off + n) = (i - (off + (n + 1))) + 1 from by omega,List.getElem?_cons_succ]
    ·rw [if_neg c3,if_neg (by omega),List.getElem?_set_ne (by omega)]
     congr 1; omega

theorem fold_splice (vs : List Value) (off : Nat) (cs : List Value) (h : off + vs.length ≤ cs.length) :
  vs.toArray.zipIdx.foldl (fun (cs : Array Value) (x : Value × Nat)=>cs.setIfInBounds (off + x.2) x.1) cs.toArray = (cs.take off ++ vs ++ cs.drop (off + vs.length)).toArray := by
 rw [← Array.foldl_toList]
 have := fold_splice' vs 0 off cs (by simpa using h)
 simpa [Array.toList_zipIdx] using this

theorem fillS_spec {E : Env} {H : HV} (place : Nat → Option (Nat × Nat)) : ∀ (parts : List (Nat × SV)) (cells out : List SV),fillS place cells parts = some out →
  SV.OkL H cells → (∀ p,p ∈ parts → p.2.Ok H) →
  Instr.fill place (SV.denL E cells).toArray (parts.map fun p=>(p.1,p.2.den E)) = some (SV.denL E out).toArray ∧ SV.OkL H out
 | [],cells,out,h,hc,_=>by simp only [fillS,Option.some.injEq] at h; subst h; exact ⟨by simp [Instr.fill],hc⟩
 | (i,v) :: rest,cells,out,h,hc,hp=>by
  simp only [fillS] at h
  split at h
  ·rename_i off size vs hpl hvs
   split at h
   ·rename_i hcond
    obtain ⟨h1,h2⟩ := hcond
    have hcl := SV.cells?_den E hvs
    have hvo := SV.cells?_ok hvs (hp _ List.mem_cons_self)
    have ih := fillS_spec (E := E) place rest _ out h (OkL_splice hc hvo _ _) (fun p hpp=>hp p (List.mem_cons_of_mem _ hpp))
    refine ⟨?_,ih.2⟩
    have hlen : (SV.denL E vs).length = size := by simp [SV.denL_eq,h1]
    have hlc : (SV.denL E cells).length = cells.length := by simp [SV.denL_eq]
    simp only [List.map_cons,Instr.fill,hpl,hcl]
    rw [if_neg (by simp [hlen,hlc]; omega)]
    rw [fold_splice _ off _ (by omega)]
    have e2 : (SV.denL E cells).take off ++ SV.denL E vs ++ (SV.denL E cells).drop (off + (SV.denL E vs).length) = SV.denL E (cells.take off ++ vs ++ cells.drop (off + size)) := by
     simp [SV.denL_eq,List.map_take,List.map_drop,h1]
    rw [e2]
    exact ih.1
   ·cases h
  ·cases h
end
end Sx
end
noncomputable section
namespace Sx
open Go RowKit

section
variable {P : Program}

theorem run_places {w : World} : ∀ (l : List Field) (places : List (Nat × Nat)),
  l.foldr (fun f acc=>match sizeT P f.type,acc with | some n,some l=>some ((f.offset,n) :: l) | _,_=>none) (some []) = some places →
  (l.mapM fun f=>(do pure (f.offset,← Go.sizeOf f.type) : Sem (Nat × Nat))).run P w = .ok places w
 | [],places,h=>by simp only [List.foldr_nil,Option.some.injEq] at h; subst h; simp
 | f :: r,places,h=>by
  simp only [List.foldr_cons] at h
  split at h
  ·rename_i n l hn hl
   cases h
   have ih := run_places (w := w) r l hl
   simp only [List.mapM_cons,Sem.run_bind,run_sizeOf hn,Result.andThen_ok,Sem.run_pure,ih]
  ·cases h

theorem buildR_spec {E : Env} {H : HV} {w : World} {t : TypeId} {parts : List (Nat × SV)} {v : SV} (h : buildR P t parts = some v) (hp : ∀ p,p ∈ parts → p.2.Ok H) :
  (Instr.build t (parts.map fun p=>(p.1,p.2.den E)).toArray).run P w = .ok (v.den E) w ∧ v.Ok H := by
 unfold buildR at h
 split at h
 ·rename_i i fs hi hu
  split at h
  ·rename_i z hz
   split at h
   ·rename_i cs hcs
    split at h
    ·rename_i places hpl
     split at h
     ·rename_i l hl
      cases h
      have hzc := SV.cells?_den E hcs
      rw [den_ofVal] at hzc
      obtain ⟨h1,h2⟩ := fillS_spec (E := E) (H := H) _ parts cs l hl (SV.cells?_ok hcs (ok_ofVal H z)) hp
      refine ⟨?_,h2⟩
      have hm : (fs.mapM fun f=>(do pure (f.offset,← Go.sizeOf f.type) : Sem (Nat × Nat))).run P w = .ok places.toArray w := by
       rw [Array.mapM_eq_mapM_toList]
       simp only [Sem.run_map,run_places fs.toList places hpl,Result.andThen_ok]
      have hzv : (zeroValue t).run P w = .ok z w := by simp [zeroValue,typeInfo,hi,hz]
      simp only [Instr.build,Sem.run_bind,hzv,Result.andThen_ok,run_underlying hu,hm]
      have hpt : (fun (i : Nat)=>places.toArray[i]?) = (fun (i : Nat)=>places[i]?) := by funext i; simp
      simp only [hpt,hzc,h1,SV.den,Sem.run_pure]
     ·cases h
    ·cases h
   ·cases h
  ·cases h
 ·rename_i i n el hi hu
  split at h
  ·rename_i z s hz hs
   split at h
   ·rename_i cs hcs
    split at h
    ·rename_i l hl
     cases h
     have hzc := SV.cells?_den E hcs
     rw [den_ofVal] at hzc
     obtain ⟨h1,h2⟩ := fillS_spec (E := E) (H := H) _ parts cs l hl (SV.cells?_ok hcs (ok_ofVal H z)) hp
     refine ⟨?_,h2⟩
     have hzv : (zeroValue t).run P w = .ok z w := by simp [zeroValue,typeInfo,hi,hz]
     simp only [Instr.build,Sem.run_bind,hzv,Result.andThen_ok,run_underlying hu,run_sizeOf hs]
     simp only [hzc,h1,SV.den,Sem.run_pure]
    ·cases h
   ·cases h
  ·cases h
 ·cases h

theorem toD_spec {C : Ctx} {m : Mem} {E : Env} {H : HV} {w : World} (g : Good C m E H w) {v : SV} {d : D} (h : toD m v = some d) (hv : v.Ok H) : v.den E = d.val ∧ d.Ok H := by
 cases v <;> simp only [toD,Option.some.injEq,reduceCtorEq] at h
 case vec k =>
  split at h
  ·rename_i d' hk
   cases h
   obtain ⟨⟨a,b,c,rfl,e⟩,hok⟩ := g.own k _ (Mem.get_mem hk)
   exact ⟨by simp only [SV.den,e]; rfl,hok⟩
  ·cases h
 case dat d'=>subst h; exact ⟨rfl,hv.1⟩
 case nils=>subst h; exact ⟨rfl,.nil 0⟩
 case int k n=>subst h; exact ⟨rfl,.int k n⟩
 case bool b=>subst h; exact ⟨rfl,.bool b⟩
 case lb b=>subst h; exact ⟨rfl,.bool b⟩
 case str s=>subst h; exact ⟨rfl,.str s⟩

theorem toDs_spec {C : Ctx} {m : Mem} {E : Env} {H : HV} {w : World} (g : Good C m E H w) : ∀ {l : List SV} {ds : List D},toDs m l = some ds → SV.OkL H l →
  SV.denL E l = ds.map D.val ∧ ∀ d,d ∈ ds → d.Ok H
 | [],ds,h,_=>by simp only [toDs,Option.some.injEq] at h; subst h; simp [SV.denL]
 | x :: r,ds,h,hl=>by
  simp only [toDs] at h
  split at h
  ·rename_i d ds' hd hds
   cases h
   obtain ⟨i1,i2⟩ := toDs_spec g hds hl.2
   obtain ⟨j1,j2⟩ := toD_spec g hd hl.1
   refine ⟨by simp only [SV.denL,List.map_cons,i1,j1],fun x hx=>?_⟩
   rcases List.mem_cons.1 hx with rfl | hx
   ·exact j2
   ·exact i2 x hx
  ·cases h
theorem rowsOf_fill {C : Ctx} {m : Mem} {E : Env} {H : HV} {w : World} (g : Good C m E H w) {sz : Nat} : ∀ {parts : List (Nat × SV)} {i : Nat} {rows : List (List D)},
  rowsOf m sz i parts = some rows → (∀ p,p ∈ parts → p.2.Ok H) → ∀ (pre rest : List Value),pre.length = i * sz → rest.length = parts.length * sz →
  Instr.fill (fun i=>some (i * sz,sz)) (pre ++ rest).toArray (parts.map fun p=>(p.1,p.2.den E)) = some (pre ++ flat rows).toArray ∧
  rows.length = parts.length ∧ (∀ r,r ∈ rows → r.length = sz) ∧ (∀ r,r ∈ rows → ∀ x,x ∈ r → D.Ok H x)
 | [],i,rows,h,_,pre,rest,h1,h2=>by
  simp only [rowsOf,Option.some.injEq] at h; subst h
  have : rest = [] := List.eq_nil_of_length_eq_zero (by simpa using h2)
  subst this
  simp [Instr.fill,flat]
 | (j,v) :: r,i,rows,h,hp,pre,rest,h1,h2=>by
  simp only [rowsOf] at h
  split at h
  ·rename_i vs hvs
   split at h
   ·rename_i ds rs hds hrs
    split at h
    ·rename_i hc
     obtain ⟨rfl,hlen⟩ := hc
     cases h
     have hvo := SV.cells?_ok hvs (hp _ List.mem_cons_self)
     obtain ⟨d1,d2⟩ := toDs_spec g hds hvo
     have hcl := SV.cells?_den E hvs
     have hvl : (SV.denL E vs).length = sz := by rw [d1]; simp [hlen]
     simp only [List.length_cons,Nat.add_mul,Nat.one_mul] at h2
     have ih := rowsOf_fill g hrs (fun p hpp=>hp p (List.mem_cons_of_mem _ hpp)) (pre ++ SV.denL E vs) (rest.drop sz) (by simp [h1,hvl,Nat.add_mul]) (by simp [h2])
     refine ⟨?_,by simp [ih.2.1],fun x hx=>?_,fun x hx=>?_⟩
     ·simp only [List.map_cons,Instr.fill,hcl]
      rw [if_neg (by simp [hvl,h1]; omega),fold_splice _ _ _ (by simp [h1,hvl]; omega)]
      have e : (pre ++ rest).take (i * sz) ++ SV.denL E vs ++ (pre ++ rest).drop (i * sz + (SV.denL E vs).length) = pre ++ SV.denL E vs ++ rest.drop sz := by
       rw [List.take_append_of_le_length (by omega),List.take_of_length_le (by omega),hvl,List.drop_append,List.drop_of_length_le (by omega)]
       simp [h1]
      rw [e,ih.1]
      congr 2
      simp [flat,d1]
     ·rcases List.mem_cons.1 hx with rfl | hx
      ·exact hlen
      ·exact ih.2.2.1 x hx
     ·rcases List.mem_cons.1 hx with rfl | hx
      ·exact d2
      ·exact ih.2.2.2 x hx
    ·cases h
   ·cases h
  ·cases h

theorem Good.buildSlice {C : Ctx} {m : Mem} {E : Env} {H : HV} {w : World} (g : Good C m E H w) {t e : TypeId} {i : TypeInfo} {z : Value} {parts : List (Nat × SV)} {rows : List (List D)}
  (ht : P.underlying t = some (.slice e)) (hi : P.info? e = some i) (hz : i.zero = some z)
  (hrows : rowsOf m i.size 0 parts = some rows) (hp : ∀ p,p ∈ parts → p.2.Ok H) (hbig : parts.length * i.size ≤ 16777216) (hmax : parts.length ≤ maxLen)
  (k : Nat) (hk : Mem.has k m = false) :
  ∃ w' h b,(Instr.buildSlice t parts.length (parts.map fun p=>(p.1,p.2.den E)).toArray).run P w = .ok (hval h rows.length) w' ∧
   Good C ((k,.arr e (.slc h i.size rows)) :: m) (E.setV k b (h,rows.length)) H w' ∧ Below w.heap.size w w' ∧ (h ≠ none → b = w.heap.size) := by
 have hbase : ∀ (zs : Array Value),zs.size = parts.length * i.size →
   ∃ cells : List Value,Instr.fill (fun j=>some (j * i.size,i.size)) zs (parts.map fun p=>(p.1,p.2.den E)) = some cells.toArray ∧ cells = flat rows := by
  intro zs hzs
  have := (rowsOf_fill g hrows hp [] zs.toList (by simp) (by simpa using hzs)).1
  simp only [List.nil_append,Array.toArray_toList] at this
  exact ⟨_,this,rfl⟩
 obtain ⟨_,hl,hr,ho⟩ := rowsOf_fill g hrows hp [] (List.replicate (parts.length * i.size) undef) (by simp) (by simp)
 have hsz : (Go.sizeOf e).run P w = .ok i.size w := run_sizeOf (by simp [sizeT,hi])
 have hzv : (zeroValue e).run P w = .ok z w := by simp [zeroValue,typeInfo,hi,hz]
 have hfl : (flat rows).length = rows.length * i.size := flat_len hr
 refine ⟨w.alloc (.cells (flat rows).toArray e),some (⟨w.heap.size,0,none⟩,rows.length),w.heap.size,?_,?_,(Below.refl _ _).alloc (Nat.le_refl _) _,fun _=>rfl⟩
 ·have hb : ¬ (parts.length * i.size > 2 ^ 24) := by omega
  by_cases h0 : parts.length * i.size = 0
  ·obtain ⟨cells,hc,rfl⟩ := hbase ((Array.range (parts.length * i.size)).map ((#[] : Array Value)[· % (#[] : Array Value).size]!)) (by simp)
   simp only [Instr.buildSlice,Sem.run_bind,run_underlying ht,Result.andThen_ok,hsz,h0,if_true,Sem.run_pure,Sem.run_ite]
   rw [h0] at hc
   simp only [hc]
   simp [newRow,hval,hl]
  ·obtain ⟨cells,hc,rfl⟩ := hbase ((Array.range (parts.length * i.size)).map (z.cells[· % z.cells.size]!)) (by simp)
   simp only [Instr.buildSlice,Sem.run_bind,run_underlying ht,Result.andThen_ok,hsz,hb,if_false,h0,Sem.run_pure,Sem.run_ite,hzv]
   simp only [hc]
   simp [newRow,hval,hl]
 ·have hbk : (E.setV k w.heap.size (some (⟨w.heap.size,0,none⟩,rows.length),rows.length)).b k = w.heap.size := by simp [Env.setV]
  refine Good.cons g hk (E.agree_setV _ _ _) ((Below.refl _ _).alloc (Nat.le_refl _) _) ⟨_,_,_,rfl,by simp [Env.setV],⟨hfl,.inr ⟨w.heap.size,rows.length,_,rfl,g.below.size,heap_alloc_new w _,Nat.le_refl _,by omega,by simpa using hfl,by simp [← hfl]⟩⟩,hr,ho,?_⟩ ?_
  ·intro a c hc
   cases hc
   rw [hbk]
   exact ⟨rfl,g.noH_new (Nat.le_refl _)⟩
  ·intro _ j p hj hl
   rw [hbk]
   have := (g.own j p hj).lt hl
   omega
theorem has_cells {k : Nat} {v : SV} {cs : List SV} (h : v.cells? = some cs) (hk : v.has k = false) : SV.hasL k cs = false := by
 cases v <;> simp [SV.cells?] at h <;> subst h <;> simp_all [SV.has,SV.hasL]
def slCells (sz : Nat) : Nat → List (Nat × SV) → Option (List SV)
 | _,[]=>some []
 | i,(j,v) :: r =>
  match v.cells? with
  | some vs=>match slCells sz (i + 1) r with
   | some rs=>if i = j ∧ vs.length = sz then some (vs ++ rs) else none
   | none=>none
  | none=>none
theorem denL_app (E : Env) (a b : List SV) : SV.denL E (a ++ b) = SV.denL E a ++ SV.denL E b := by simp [SV.denL_eq]
theorem slCells_fill {E : Env} {H : HV} {sz : Nat} : ∀ {parts : List (Nat × SV)} {i : Nat} {cs : List SV},
  slCells sz i parts = some cs → (∀ p,p ∈ parts → p.2.Ok H) → ∀ (pre rest : List Value),pre.length = i * sz → rest.length = parts.length * sz →
  Instr.fill (fun i=>some (i * sz,sz)) (pre ++ rest).toArray (parts.map fun p=>(p.1,p.2.den E)) = some (pre ++ SV.denL E cs).toArray ∧ SV.OkL H cs ∧ cs.length = parts.length * sz
 | [],i,cs,h,_,pre,rest,h1,h2=>by
  simp only [slCells,Option.some.injEq] at h; subst h
  have : rest = [] := List.eq_nil_of_length_eq_zero (by simpa using h2)
  subst this
  simp [Instr.fill,SV.denL,SV.OkL]
 | (j,v) :: r,i,cs,h,hp,pre,rest,h1,h2=>by
  simp only [slCells] at h
  split at h
  ·rename_i vs hvs
   split at h
   ·rename_i rs hrs
    split at h
    ·rename_i hc
     obtain ⟨rfl,hlen⟩ := hc
     cases h
     have hvo := SV.cells?_ok hvs (hp _ List.mem_cons_self)
     have hcl := SV.cells?_den E hvs
     have hvl : (SV.denL E vs).length = sz := by rw [SV.denL_eq,List.length_map]; exact hlen
     simp only [List.length_cons,Nat.add_mul,Nat.one_mul] at h2
     have ih := slCells_fill (E := E) hrs (fun p hpp=>hp p (List.mem_cons_of_mem _ hpp)) (pre ++ SV.denL E vs) (rest.drop sz) (by simp [h1,hvl,Nat.add_mul]) (by simp [h2])
     refine ⟨?_,?_,?_⟩
     ·simp only [List.map_cons,Instr.fill,hcl]
      rw [if_neg (by simp [hvl,h1]; omega),fold_splice _ _ _ (by simp [h1,hvl]; omega)]
      have e : (pre ++ rest).take (i * sz) ++ SV.denL E vs ++ (pre ++ rest).drop (i * sz + (SV.denL E vs).length) = pre ++ SV.denL E vs ++ rest.drop sz := by
       rw [List.take_append_of_le_length (by omega),List.take_of_length_le (by omega),hvl,List.drop_append,List.drop_of_length_le (by omega)]
       simp [h1]
      rw [e,ih.1,denL_app]
      congr 2
      simp
     ·rw [SV.OkL_iff] at hvo ⊢
      have h3 := ih.2.1
      rw [SV.OkL_iff] at h3
      intro x hx
      rcases List.mem_append.1 hx with hx | hx
      ·exact hvo x hx
      ·exact h3 x hx
     ·rw [List.length_append,ih.2.2,hlen]; simp only [List.length_cons,Nat.add_mul,Nat.one_mul]; omega
    ·cases h
   ·cases h
  ·cases h
theorem Good.buildSl {C : Ctx} {m : Mem} {E : Env} {H : HV} {w : World} (g : Good C m E H w) {t e : TypeId} {i : TypeInfo} {z : Value} {parts : List (Nat × SV)} {cs : List SV}
  (ht : P.underlying t = some (.slice e)) (hi : P.info? e = some i) (hz : i.zero = some z)
  (hcs : slCells i.size 0 parts = some cs) (hp : ∀ p,p ∈ parts → p.2.Ok H) (hbig : parts.length * i.size ≤ 16777216) (hmax : parts.length ≤ maxLen) (h0 : parts.length * i.size ≠ 0)
  (k : Nat) (hk : Mem.has k m = false) (hkp : ∀ p,p ∈ parts → p.2.has k = false) :
  ∃ w',(Instr.buildSlice t parts.length (parts.map fun p=>(p.1,p.2.den E)).toArray).run P w = .ok ((SV.sl k parts.length).den (E.set k w.heap.size)) w' ∧
   Good C ((k,.cells e cs) :: m) (E.set k w.heap.size) H w' ∧ Below w.heap.size w w' := by
 have hsz : (Go.sizeOf e).run P w = .ok i.size w := run_sizeOf (by simp [sizeT,hi])
 have hzv : (zeroValue e).run P w = .ok z w := by simp [zeroValue,typeInfo,hi,hz]
 have hb : ¬ (parts.length * i.size > 2 ^ 24) := by omega
 obtain ⟨hc,hok,hlen⟩ := slCells_fill (E := E) hcs hp [] ((Array.range (parts.length * i.size)).map (z.cells[· % z.cells.size]!)).toList (by simp) (by simp)
 simp only [List.nil_append,Array.toArray_toList] at hc
 have hkc : SV.hasL k cs = false := by
  have : ∀ {parts : List (Nat × SV)} {i : Nat} {cs : List SV} {sz : Nat},slCells sz i parts = some cs → (∀ p,p ∈ parts → p.2.has k = false) → SV.hasL k cs = false := by
   intro parts
   induction parts with
   | nil=>intro i cs sz h _; simp only [slCells,Option.some.injEq] at h; subst h; rfl
   | cons x r ih =>
    intro i cs sz h hq
    obtain ⟨j,v⟩ := x
    simp only [slCells] at h
    split at h
    ·rename_i vs hvs
     split at h
     ·rename_i rs hrs
      split at h
      ·cases h
       rw [SV.hasL_iff]
       intro x hx
       rcases List.mem_append.1 hx with hx | hx
       ·exact (SV.hasL_iff _).1 (has_cells hvs (hq _ List.mem_cons_self)) x hx
       ·exact (SV.hasL_iff _).1 (ih hrs fun p hp=>hq p (List.mem_cons_of_mem _ hp)) x hx
      ·cases h
     ·cases h
    ·cases h
  exact this hcs hkp
 have ha := E.agree_set k w.heap.size
 refine ⟨w.alloc (.cells (SV.denL E cs).toArray e),?_,?_,(Below.refl _ _).alloc (Nat.le_refl _) _⟩
 ·simp only [Instr.buildSlice,Sem.run_bind,run_underlying ht,Result.andThen_ok,hsz,hb,if_false,h0,Sem.run_pure,Sem.run_ite,hzv]
  simp only [hc]
  simp [newRow,SV.den,Env.set]
 ·have hbk : (E.set k w.heap.size).b k = w.heap.size := by simp [Env.set]
  refine Good.cons g hk ha ((Below.refl _ _).alloc (Nat.le_refl _) _) ⟨?_,?_,?_,hok⟩ (fun _ j p hj hl=>by rw [hbk]; have := (g.own j p hj).lt hl; omega)
  ·rw [hbk]; exact g.below.size
  ·rw [hbk,SV.denL_agree ha cs hkc]; exact heap_alloc_new w _
  ·rw [hbk]; exact g.noH_new (Nat.le_refl _)
end
end Sx
end
noncomputable section
namespace Sx
open Go RowKit
open MapKept (IsKey run_checkKey run_findKey run_setObj_map)

section
variable {P : Program} {C : Ctx} {m : Mem} {E : Env} {H : HV} {w : World} {key : Nat}

theorem Stamps.nil : Stamps #[] 0 := ⟨rfl,rfl⟩
theorem Stamps.push {en : Array MapEntry} {cl : Nat} (h : Stamps en cl) (k v : Value) : Stamps (en.push { key := k,val := v,born := cl }) (cl + 1) := by
 obtain ⟨h1,h2⟩ := h
 refine ⟨by rw [Array.size_push,h1],?_⟩
 simp only [Array.toList_push,List.map_append,List.map_cons,List.map_nil,h2,h1,Array.size_push,List.range_succ]
theorem born_modify (en : Array MapEntry) (j : Nat) (k v : Value) : (en.modify j fun e=>{ e with key := k,val := v }).toList.map (·.born) = en.toList.map (·.born) := by
 apply List.ext_getElem?
 intro q
 rw [List.getElem?_map,List.getElem?_map,Array.getElem?_toList,Array.getElem?_modify,Array.getElem?_toList]
 by_cases hq : j = q
 ·subst hq; cases en[j]? <;> simp
 ·rw [if_neg hq]
theorem Stamps.modify {en : Array MapEntry} {cl : Nat} (h : Stamps en cl) (j : Nat) (k v : Value) : Stamps (en.modify j fun e=>{ e with key := k,val := v }) cl := by
 obtain ⟨h1,h2⟩ := h
 exact ⟨by rw [Array.size_modify,h1],by rw [born_modify,Array.size_modify,h2]⟩

theorem Good.allocMap (g : Good C m E H w) (hk : Mem.has key m = false) :
  Good C ((key,.map []) :: m) (E.set key w.heap.size) H (w.alloc (.map #[] 0)) := by
 have ha := E.agree_set key w.heap.size
 have hb : (E.set key w.heap.size).b key = w.heap.size := by simp [Env.set]
 refine g.cons hk ha ((Below.refl _ _).alloc (Nat.le_refl _) _) ⟨?_,?_,⟨#[],0,?_,List.Perm.refl _,Stamps.nil⟩,by simp,by simp,List.Pairwise.nil⟩ (fun _ j p hj hl=>by rw [hb]; have := (g.own j p hj).lt hl; omega)
 ·rw [hb]; exact g.below.size
 ·rw [hb]; exact g.noH_new (Nat.le_refl _)
 ·rw [hb]; exact heap_alloc_new w _

theorem keeps_allocO {o : OBlk} {ob : Obj} (hk : Mem.has key m = false) : Keeps m E H w key ((key,o) :: m) (E.set key w.heap.size) H (w.alloc ob) := by
 refine ⟨by simp,fun j hj _=>heap_alloc_old w _ hj,fun _ _ _ h=>.inl h,fun q o hq=>?_,fun q o hq hl=>?_,rfl,rfl,rfl⟩
 ·rcases List.mem_cons.1 hq with hq | hq
  ·cases hq; exact .inl rfl
  ·exact .inr ⟨o,hq⟩
 ·rcases List.mem_cons.1 hq with hq | hq
  ·cases hq; left; simp [Env.set]
  ·right; exact ⟨q,o,hq,hl,((E.agree_set key w.heap.size).1 q (Mem.has_key hk _ hq).1).1⟩

theorem toList_madeCells {zc : Array Value} {zr : List D} (h : zr.map D.val = zc.toList) (h0 : 0 < zr.length) (c : Nat) : (madeCells zc (c * zr.length)).toList = flat (List.replicate c zr) := by
 have hl : ∀ r,r ∈ List.replicate c zr → r.length = zr.length := fun r hr=>by rw [List.eq_of_mem_replicate hr]
 have hzs : zc.size = zr.length := by rw [← Array.length_toList,← h,List.length_map]
 apply List.ext_getElem?
 intro j
 rcases Nat.lt_or_ge j (c * zr.length) with hj | hj
 ·have hi : j / zr.length < c := (Nat.div_lt_iff_lt_mul h0).2 hj
  have hk : j % zr.length < zr.length := Nat.mod_lt _ h0
  have hf := flat_get hl (j / zr.length) (j % zr.length) zr zr[j % zr.length] (by simp [hi]) (by simp [hk])
  rw [Nat.div_add_mod'] at hf
  rw [hf]
  have hz : zc[j % zr.length]? = some (zr[j % zr.length]).val := by
   rw [← Array.getElem?_toList,← h,List.getElem?_map,List.getElem?_eq_getElem hk]; rfl
  simp only [madeCells,Array.toList_map,List.getElem?_map,Array.getElem?_toList,hzs]
  rw [Array.getElem?_range]
  simp only [hj,if_true,Option.map_some,Option.some.injEq]
  simp [getElem!_def,hz]
 ·rw [List.getElem?_eq_none (by simp [madeCells]; omega),List.getElem?_eq_none (by rw [flat_len hl]; simpa using hj)]

theorem Good.makeArr2 (g : Good C m E H w) (hk : Mem.has key m = false) {e : TypeId} {zc : Array Value} {zr : List D} (hz : zr.map D.val = zc.toList) (h0 : 0 < zr.length) (hok : ∀ x,x ∈ zr → x.Ok H) (n c : Nat) (hn : n ≤ c) (hc : c ≤ maxLen) :
  Good C ((key,.arr e (.slc (some (⟨w.heap.size,0,none⟩,c)) zr.length (List.replicate n zr))) :: m) (E.setV key w.heap.size (some (⟨w.heap.size,0,none⟩,c),n)) H (w.alloc (.cells (madeCells zc (c * zr.length)) e)) := by
 have ha := E.agree_setV key w.heap.size (some (⟨w.heap.size,0,none⟩,c),n)
 have hb : (E.setV key w.heap.size (some (⟨w.heap.size,0,none⟩,c),n)).b key = w.heap.size := by simp [Env.setV]
 have hl : ∀ k,∀ r,r ∈ List.replicate k zr → r.length = zr.length := fun k r hr=>by rw [List.eq_of_mem_replicate hr]
 refine g.cons hk ha ((Below.refl _ _).alloc (Nat.le_refl _) _) ⟨_,_,_,rfl,by simp [Env.setV],⟨by rw [flat_len (hl n)],.inr ⟨w.heap.size,c,_,by simp [D.val,hval],g.below.size,heap_alloc_new w _,by simpa using hn,hc,by rw [size_madeCells],?_⟩⟩,hl n,fun r hr x hx=>hok x (by rw [List.eq_of_mem_replicate hr] at hx; exact hx),fun a c' h=>?_⟩ (fun _ j p hj hl=>by rw [hb]; have := (g.own j p hj).lt hl; omega)
 ·obtain ⟨d,rfl⟩ := Nat.exists_eq_add_of_le hn
  rw [toList_madeCells hz h0,List.length_replicate,← List.replicate_append_replicate,flat_append]
  have : (flat (List.replicate n zr)).length = n * zr.length := by rw [flat_len (hl n)]; simp
  rw [← this,List.take_left]
 ·simp only [Option.some.injEq,Prod.mk.injEq] at h
  obtain ⟨rfl,_⟩ := h
  exact ⟨by rw [hb],by rw [hb]; exact g.noH_new (Nat.le_refl _)⟩

theorem Good.makeArr (g : Good C m E H w) (hk : Mem.has key m = false) {e : TypeId} {zc : Array Value} {zr : List D} (hz : zr.map D.val = zc.toList) (h0 : 0 < zr.length) (hok : ∀ x,x ∈ zr → x.Ok H) (c : Nat) (hc : c ≤ maxLen) :
  Good C ((key,.arr e (.slc (some (⟨w.heap.size,0,none⟩,c)) zr.length (List.replicate c zr))) :: m) (E.setV key w.heap.size (some (⟨w.heap.size,0,none⟩,c),c)) H (w.alloc (.cells (madeCells zc (c * zr.length)) e)) :=
 g.makeArr2 hk hz h0 hok c c (Nat.le_refl _) hc

theorem Good.makeSl (g : Good C m E H w) (hk : Mem.has key m = false) {e : TypeId} {zc : Array Value} (hz : ([D.slc none 0 []] : List D).map D.val = zc.toList) (n : Nat) :
  Good C ((key,.cells e (List.replicate n .nils)) :: m) (E.set key w.heap.size) H (w.alloc (.cells (madeCells zc (n * ([D.slc none 0 []] : List D).length)) e)) := by
 have ha := E.agree_set key w.heap.size
 have hb : (E.set key w.heap.size).b key = w.heap.size := by simp [Env.set]
 have hd : ∀ E',SV.denL E' (List.replicate n .nils) = List.replicate n (Value.slice none 0 0) := fun E'=>by rw [SV.denL_eq]; simp [SV.den]
 refine Good.cons g hk ha ((Below.refl _ _).alloc (Nat.le_refl _) _) ⟨?_,?_,?_,?_⟩ (fun _ j p hj hl=>by rw [hb]; have := (g.own j p hj).lt hl; omega)
 ·rw [hb]; exact g.below.size
 ·rw [hb,hd,heap_alloc_new w _]
  congr 2
  apply Array.ext'
  rw [toList_madeCells hz (by decide)]
  simp [flat,D.val,hval]
 ·rw [hb]; exact g.noH_new (Nat.le_refl _)
 ·rw [SV.OkL_iff]; intro x hx; rw [List.eq_of_mem_replicate hx]; simp [SV.Ok]
theorem keeps_makeSl {o : OBlk} {ob : Obj} {v : Nat} (hk : Mem.has key m = false) (hv : v = w.heap.size := by rfl) : Keeps m E H w key ((key,o) :: m) (E.set key v) H (w.alloc ob) := by
 subst hv
 refine ⟨by simp,fun j hj _=>heap_alloc_old w _ hj,fun _ _ _ h=>.inl h,fun q o hq=>?_,fun q o hq hl=>?_,rfl,rfl,rfl⟩
 ·rcases List.mem_cons.1 hq with hq | hq
  ·cases hq; exact .inl rfl
  ·exact .inr ⟨o,hq⟩
 ·rcases List.mem_cons.1 hq with hq | hq
  ·cases hq; left; simp [Env.set]
  ·right; exact ⟨q,o,hq,hl,((E.agree_set key w.heap.size).1 q (Mem.has_key hk _ hq).1).1⟩
theorem keeps_makeArr {o : OBlk} {ob : Obj} {v : Hd × Nat} (hk : Mem.has key m = false) : Keeps m E H w key ((key,o) :: m) (E.setV key w.heap.size v) H (w.alloc ob) := by
 refine ⟨by simp,fun j hj _=>heap_alloc_old w _ hj,fun _ _ _ h=>.inl h,fun q o hq=>?_,fun q o hq hl=>?_,rfl,rfl,rfl⟩
 ·rcases List.mem_cons.1 hq with hq | hq
  ·cases hq; exact .inl rfl
  ·exact .inr ⟨o,hq⟩
 ·rcases List.mem_cons.1 hq with hq | hq
  ·cases hq; left; simp [Env.setV]
  ·right; exact ⟨q,o,hq,hl,((E.agree_setV key w.heap.size v).1 q (Mem.has_key hk _ hq).1).1⟩
theorem Good.appendT (t ty e : TypeId) (i : TypeInfo) (z : Value)
  (ht : P.underlying t = some (.slice e)) (hi : P.info? e = some i) (hz : i.zero = some z) (hzs : z.cells.size = i.size)
  (g : Good C m E H w) (a : Addr) (old : List (List D)) (holds : ∀ j u,(flat old)[j]? = some u → w.cell? (a.add j) = some u)
  (hol : ∀ r,r ∈ old → r.length = i.size) (hoo : ∀ r,r ∈ old → ∀ x,x ∈ r → D.Ok H x)
  (x : Value) (rows : List (List D)) (hx : Reads w x i.size rows) (hro : ∀ r,r ∈ rows → ∀ x,x ∈ r → D.Ok H x) (cp : Nat) (hpos : 0 < rows.length) (hcp : cp < old.length + rows.length)
  (hb : (old.length + rows.length) * i.bytes ≤ 140737488355328) (hm : old.length + rows.length ≤ maxLen)
  (k : Nat) (hk : Mem.has k m = false) :
  ∃ w' h b,(Builtin.append_ #[t,t] ty #[.slice (some a) old.length cp,x]).run P w = .ok (hval h (old.length + rows.length)) w' ∧
   Good C ((k,.arr e (.slc h i.size (old ++ rows))) :: m) (E.setV k b (h,old.length + rows.length)) H w' ∧
   w.heap.size ≤ w'.heap.size ∧ (∀ j,j < w.heap.size → w'.heap[j]? = w.heap[j]?) ∧ (h ≠ none → w.heap.size ≤ b) ∧ (w'.os = w.os ∧ w'.tape = w.tape ∧ w'.output = w.output) := by
 have hall : ∀ r,r ∈ old ++ rows → r.length = i.size := fun r hr=>by
  rcases List.mem_append.1 hr with h | h
  ·exact hol r h
  ·exact hx.1 r h
 have hallo : ∀ r,r ∈ old ++ rows → ∀ x,x ∈ r → D.Ok H x := fun r hr=>by
  rcases List.mem_append.1 hr with h | h
  ·exact hoo r h
  ·exact hro r h
 have hlen : (flat (old ++ rows)).length = (old.length + rows.length) * i.size := by rw [flat_len hall]; simp
 rcases hx.2 with ⟨_,h0⟩ | ⟨a',c,rfl,hnews⟩
 ·rw [h0] at hpos; simp at hpos
 ·have hnl : (flat rows).length = rows.length * i.size := flat_len hx.1
  have hol' : (flat old).length = old.length * i.size := flat_len hol
  have h63 : old.length + rows.length ≤ 9223372036854775807 := by simp only [maxLen] at hm; omega
  have hrun := run_append_grow (P := P) w t ty e i z ht hi hz a old.length cp (flat old) hol' holds a' rows.length c (flat rows) hnl hnews (by omega) (by omega) (growslice_fits (by omega) hb)
  have hge := grownCap_ge w (old.length + rows.length) cp e
  have hbk : (E.setV k w.heap.size (some (⟨w.heap.size,0,none⟩,grownCap w (old.length + rows.length) cp e),old.length + rows.length)).b k = w.heap.size := by simp [Env.setV]
  have hvk : (E.setV k w.heap.size (some (⟨w.heap.size,0,none⟩,grownCap w (old.length + rows.length) cp e),old.length + rows.length)).v k = (some (⟨w.heap.size,0,none⟩,grownCap w (old.length + rows.length) cp e),old.length + rows.length) := by simp [Env.setV]
  refine ⟨_,some (⟨w.heap.size,0,none⟩,grownCap w (old.length + rows.length) cp e),w.heap.size,hrun,?_,by simp,fun j hj=>heap_alloc_old w.drew _ hj,fun _=>Nat.le_refl _,rfl,rfl,rfl⟩
  refine Good.cons g hk (E.agree_setV _ _ _) (((Below.refl _ _).drew).alloc (Nat.le_refl _) _) ⟨_,_,_,rfl,by rw [hvk]; simp,⟨by simp [hlen],.inr ⟨w.heap.size,grownCap w (old.length + rows.length) cp e,_,by simp [D.val,hval],g.below.size,heap_alloc_new w.drew _,by simpa using hge,grownCap_le_maxLen w (old.length + rows.length) cp e hm,?_,?_⟩⟩,hall,hallo,?_⟩ ?_
  ·simp only [Array.size_append,List.size_toArray,size_zeroCells,hzs,hnl,hol',← Nat.add_mul]
   congr 1; omega
  ·simp only [Array.toList_append,List.length_append]
   rw [← flat_append,← hlen]
   exact List.take_left
  ·intro ad c hc
   cases hc
   rw [hbk]
   exact ⟨rfl,g.noH_new (Nat.le_refl _)⟩
  ·intro _ j p hj hl
   rw [hbk]
   have := (g.own j p hj).lt hl
   omega
theorem findNow_spec {n : Int} {k : IntKind} : ∀ {ents : List MapEntry} (i : Nat),(∀ e,e ∈ ents → ∃ n',e.key = .int k n') →
  (Instr.findNow (.int k) (.int k n) ents i = some none ∧ ∀ e,e ∈ ents → e.key ≠ .int k n) ∨
  (∃ i' e,Instr.findNow (.int k) (.int k n) ents i = some (some (i',e.val)) ∧ e ∈ ents ∧ e.key = .int k n)
 | [],i,_=>.inl ⟨rfl,by simp⟩
 | e :: r,i,h=>by
  obtain ⟨n',hn⟩ := h e List.mem_cons_self
  by_cases hnn : n = n'
  ·subst hnn
   exact .inr ⟨i,e,by simp [Instr.findNow,Instr.sameNow,hn],List.mem_cons_self,hn⟩
  ·have hb : (n == n') = false := by simpa using hnn
   have hne : e.key ≠ .int k n := by rw [hn]; simp [Ne.symm hnn]
   rcases findNow_spec (i + 1) (fun x hx=>h x (List.mem_cons_of_mem _ hx)) with ⟨h1,h2⟩ | ⟨i',e',h1,h2,h3⟩
   ·refine .inl ⟨by simpa [Instr.findNow,Instr.sameNow,hn,hb] using h1,fun x hx=>?_⟩
    rcases List.mem_cons.1 hx with rfl | hx
    ·exact hne
    ·exact h2 x hx
   ·exact .inr ⟨i',e',by simpa [Instr.findNow,Instr.sameNow,hn,hb] using h1,List.mem_cons_of_mem _ h2,h3⟩

theorem lookA_spec {n : Int} {k : IntKind} {d : SV} (ok : Bool) : ∀ {es : List (SV × SV)} {l : List (Bool × SV)},lookA n k es = some l →
    (∀ e,e ∈ es → ∃ n',e.1 = .int k n') ∧
    (((∀ e,e ∈ es → e.1 ≠ .int k n) ∧ pickA (okd ok d false) (l.map fun a=>(a.1,okd ok a.2 true)) = okd ok d false) ∨
     (∃ e,e ∈ es ∧ e.1 = .int k n ∧ pickA (okd ok d false) (l.map fun a=>(a.1,okd ok a.2 true)) = okd ok e.2 true))
  | [],l,h=>by
    simp [lookA] at h; subst h
    exact ⟨by simp,.inl ⟨by simp,rfl⟩⟩
  | (a,v) :: r,l,h=>by
    simp only [lookA] at h
    split at h
    · rename_i k' n' l' hl
      split at h
      · rename_i hk
        subst hk
        cases h
        obtain ⟨i1,i2⟩ := lookA_spec (d := d) ok hl
        refine ⟨fun e he=>?_,?_⟩
        · rcases List.mem_cons.1 he with rfl | he
          · exact ⟨n',rfl⟩
          · exact i1 e he
        · by_cases hn : n = n'
          · subst hn
            exact .inr ⟨_,List.mem_cons_self,rfl,by simp [pickA]⟩
          · have hb : (n == n') = false := by simpa using hn
            have hne : (SV.int k' n') ≠ .int k' n := by simp [Ne.symm hn]
            rcases i2 with ⟨h2,h3⟩ | ⟨e,h2,h3,h4⟩
            · refine .inl ⟨fun e he=>?_,by simp only [List.map_cons,pickA,hb]; exact h3⟩
              rcases List.mem_cons.1 he with rfl | he
              · exact hne
              · exact h2 e he
            · exact .inr ⟨e,List.mem_cons_of_mem _ h2,h3,by simp only [List.map_cons,pickA,hb]; exact h4⟩
      · cases h
    · cases h

theorem pair_unique {es : List (SV × SV)} (h : es.Pairwise fun x y=>x.1 ≠ y.1) {a b : SV × SV} (ha : a ∈ es) (hb : b ∈ es) (e : a.1 = b.1) : a = b := by
 induction es with
 | nil=>cases ha
 | cons x r ih =>
  rw [List.pairwise_cons] at h
  rcases List.mem_cons.1 ha with ha | ha <;> rcases List.mem_cons.1 hb with hb | hb
  ·rw [ha,hb]
  ·exact absurd (ha ▸ e) (h.1 _ hb)
  ·exact absurd (hb ▸ e.symm) (h.1 _ ha)
  ·exact ih h.2 ha hb
theorem ents_of {E : Env} {es : List (SV × SV)} {ents : List MapEntry} (hp : (ents.map (fun e=>(e.key,e.val))).Perm (es.map (fun e=>(e.1.den E,e.2.den E)))) :
  (∀ e,e ∈ ents → ∃ x,x ∈ es ∧ e.key = x.1.den E ∧ e.val = x.2.den E) ∧ (∀ x,x ∈ es → ∃ e,e ∈ ents ∧ e.key = x.1.den E ∧ e.val = x.2.den E) := by
 refine ⟨fun e he=>?_,fun x hx=>?_⟩
 ·have := hp.subset (List.mem_map.2 ⟨e,he,rfl⟩)
  obtain ⟨x,hx,h⟩ := List.mem_map.1 this
  simp only [Prod.mk.injEq] at h
  exact ⟨x,hx,h.1.symm,h.2.symm⟩
 ·have := hp.symm.subset (List.mem_map.2 ⟨x,hx,rfl⟩)
  obtain ⟨e,he,h⟩ := List.mem_map.1 this
  simp only [Prod.mk.injEq] at h
  exact ⟨e,he,h.1,h.2⟩

theorem okd_den (ok : Bool) (v : SV) (b : Bool) : (okd ok v b).den E = if ok then .tuple #[v.den E,.bool b] else v.den E := by
 cases ok <;> simp [okd,SV.den,SV.denL]
theorem okd_ok {ok : Bool} {v : SV} (b : Bool) (h : v.Ok H) : (okd ok v b).Ok H := by
 cases ok <;> simp [okd,SV.Ok,SV.OkL,h]
theorem findNow_at {n : Int} {k : IntKind} : ∀ {ents : List MapEntry} (i : Nat),(∀ e,e ∈ ents → ∃ n',e.key = .int k n') →
  (Instr.findNow (.int k) (.int k n) ents i = some none ∧ ∀ e,e ∈ ents → e.key ≠ .int k n) ∨
  (∃ j e,Instr.findNow (.int k) (.int k n) ents i = some (some (i + j,e.val)) ∧ ents[j]? = some e ∧ e.key = .int k n)
 | [],i,_=>.inl ⟨rfl,by simp⟩
 | e :: r,i,h=>by
  obtain ⟨n',hn⟩ := h e List.mem_cons_self
  by_cases hnn : n = n'
  ·subst hnn
   exact .inr ⟨0,e,by simp [Instr.findNow,Instr.sameNow,hn],rfl,hn⟩
  ·have hb : (n == n') = false := by simpa using hnn
   have hne : e.key ≠ .int k n := by rw [hn]; simp [Ne.symm hnn]
   rcases findNow_at (i + 1) (fun x hx=>h x (List.mem_cons_of_mem _ hx)) with ⟨h1,h2⟩ | ⟨j,e',h1,h2,h3⟩
   ·refine .inl ⟨by simpa [Instr.findNow,Instr.sameNow,hn,hb] using h1,fun x hx=>?_⟩
    rcases List.mem_cons.1 hx with rfl | hx
    ·exact hne
    ·exact h2 x hx
   ·exact .inr ⟨j + 1,e',by rw [show i + (j + 1) = i + 1 + j from by omega]; simpa [Instr.findNow,Instr.sameNow,hn,hb] using h1,h2,h3⟩

theorem perm_split {α : Type} {l : List α} {i : Nat} {a : α} (h : l[i]? = some a) : l.Perm (a :: (l.take i ++ l.drop (i + 1))) ∧ ∀ b,(l.set i b).Perm (b :: (l.take i ++ l.drop (i + 1))) := by
 obtain ⟨hi,rfl⟩ := List.getElem?_eq_some_iff.1 h
 refine ⟨?_,fun b=>?_⟩
 ·conv=>lhs; rw [← List.take_append_drop i l,List.drop_eq_getElem_cons hi]
  exact List.perm_middle
 ·rw [List.set_eq_take_append_cons_drop,if_pos hi]
  exact List.perm_middle
theorem perm_set {α β : Type} {l1 l2 : List (α × β)} (h : l1.Perm l2) (hp : l2.Pairwise fun x y=>x.1 ≠ y.1) {i j : Nat} {a : α} {b b' : β} (h1 : l1[i]? = some (a,b)) (h2 : l2[j]? = some (a,b')) (x : α × β) :
  (l1.set i x).Perm (l2.set j x) := by
 have he : (a,b) = (a,b') := by
  have m1 : (a,b) ∈ l2 := h.subset (List.mem_of_getElem? h1)
  have m2 : (a,b') ∈ l2 := List.mem_of_getElem? h2
  clear h1 h2 h
  induction l2 with
  | nil=>cases m1
  | cons y r ih =>
   rw [List.pairwise_cons] at hp
   rcases List.mem_cons.1 m1 with e1 | e1 <;> rcases List.mem_cons.1 m2 with e2 | e2
   ·rw [e1,e2]
   ·exact absurd (by rw [← e1]) (hp.1 _ e2)
   ·exact absurd (by rw [← e2]) (hp.1 _ e1)
   ·exact ih hp.2 e1 e2
 rw [← he] at h2
 have q := ((perm_split h1).1.symm.trans (h.trans (perm_split h2).1)).cons_inv
 exact ((perm_split h1).2 x).trans ((q.cons x).trans ((perm_split h2).2 x).symm)

theorem getInt_row {d : D} {i : Nat} {r : List D} (h : d.rows[i]? = some r) : d.getInt i 0 = rowKey r := by
 have e : d.cellAt i 0 = r[0]? := by simp only [D.cellAt,h,Option.bind_some]
 show (match d.cellAt i 0 with | some (D.int _ n)=>n | _=>0) = (match r[0]? with | some (D.int _ n)=>n | _=>0)
 rw [e]

theorem mem_mapEs {kk : IntKind} {ag : Bool} {ts : List FT} {d : D} {e : SV × SV} : e ∈ mapEs kk ag ts d ↔ ∃ i,i < d.len ∧ e = (.int kk (d.getInt i 0),mapSV ag ts d i) := by
 simp only [mapEs,List.mem_map,List.mem_range]
 constructor
 ·rintro ⟨i,h,rfl⟩; exact ⟨i,h,rfl⟩
 ·rintro ⟨i,h,rfl⟩; exact ⟨i,h,rfl⟩
theorem len_mapEs (kk : IntKind) (ag : Bool) (ts : List FT) (d : D) : (mapEs kk ag ts d).length = d.len := by simp [mapEs]
theorem get_mapEs {kk : IntKind} {ag : Bool} {ts : List FT} {d : D} {i : Nat} (h : i < d.len) : (mapEs kk ag ts d)[i]? = some (.int kk (d.getInt i 0),mapSV ag ts d i) := by
 simp [mapEs,h]

theorem hasKey_iff {d : D} {n : Int} : d.hasKey n = true ↔ ∃ i,i < d.len ∧ d.getInt i 0 = n := by
 simp only [D.hasKey,List.any_eq_true,beq_iff_eq,D.len]
 constructor
 ·rintro ⟨r,hr,hn⟩
  obtain ⟨i,hi,rfl⟩ := List.mem_iff_getElem.1 hr
  exact ⟨i,hi,by rw [getInt_row (List.getElem?_eq_getElem hi)]; exact hn⟩
 ·rintro ⟨i,hi,hn⟩
  exact ⟨d.rows[i],List.getElem_mem hi,by rw [← getInt_row (List.getElem?_eq_getElem hi)]; exact hn⟩

theorem keys_distinct {kk : IntKind} {ag : Bool} {ts : List FT} {d : D} (h : KeysOk (mapEs kk ag ts d)) {i j : Nat} (hi : i < d.len) (hj : j < d.len) (he : d.getInt i 0 = d.getInt j 0) : i = j := by
 have hp := List.pairwise_iff_getElem.1 h.2
 have key : ∀ a b : Nat,a < b → b < d.len → d.getInt a 0 ≠ d.getInt b 0 := fun a b hab hb he=>by
  have := hp a b (by rw [len_mapEs]; omega) (by rw [len_mapEs]; exact hb) hab
  simp [mapEs,he] at this
 rcases Nat.lt_trichotomy i j with h1 | h1 | h1
 ·exact absurd he (key i j h1 hj)
 ·exact h1
 ·exact absurd he.symm (key j i h1 hi)

theorem keyIx_lt {d : D} {n : Int} (h : d.hasKey n = true) : d.keyIx n < d.len ∧ d.getInt (d.keyIx n) 0 = n := by
 have h' := h
 simp only [D.hasKey,List.any_eq_true] at h'
 have hlt := List.findIdx_lt_length_of_exists h'
 have he := List.findIdx_getElem (w := hlt)
 refine ⟨hlt,?_⟩
 show d.getInt (d.rows.findIdx fun r=>rowKey r == n) 0 = n
 rw [getInt_row (List.getElem?_eq_getElem hlt)]
 simpa using he
theorem map_find {ents : List MapEntry} {es : List (SV × SV)} {k : IntKind} {n : Int} (he : (ents.map (fun e=>(e.key,e.val))).Perm (es.map (fun e=>(e.1.den E,e.2.den E))))
  (hk : ∀ e,e ∈ es → ∃ n',e.1 = .int k n') (hp : es.Pairwise fun x y=>x.1 ≠ y.1) :
  (Instr.findNow (.int k) (.int k n) ents 0 = some none ∧ ∀ e,e ∈ es → e.1 ≠ .int k n) ∨
  (∃ j e x,Instr.findNow (.int k) (.int k n) ents 0 = some (some (j,e.val)) ∧ ents[j]? = some e ∧ e.key = .int k n ∧ x ∈ es ∧ x.1 = .int k n ∧ e.val = x.2.den E) := by
 obtain ⟨e1,e2⟩ := ents_of he
 have hint : ∀ e,e ∈ ents → ∃ n',e.key = .int k n' := fun e hee=>by
  obtain ⟨x,hx,h1,_⟩ := e1 e hee
  obtain ⟨n',hn'⟩ := hk x hx
  exact ⟨n',by rw [h1,hn']; simp [SV.den]⟩
 rcases findNow_at (n := n) 0 hint with ⟨h1,h2⟩ | ⟨j,e,h1,h2,h3⟩
 ·refine .inl ⟨h1,fun x hx hxn=>?_⟩
  obtain ⟨e,hee,h4,_⟩ := e2 x hx
  exact h2 e hee (by rw [h4,hxn]; simp [SV.den])
 ·obtain ⟨x,hx,h6,h7⟩ := e1 e (List.mem_of_getElem? h2)
  obtain ⟨n',hn'⟩ := hk x hx
  refine .inr ⟨j,e,x,by simpa using h1,h2,h3,hx,?_,h7⟩
  rw [h3,hn'] at h6
  simp only [SV.den,Value.int.injEq,true_and] at h6
  rw [hn',h6]

theorem lookR_spec (g : Good C m E H w) {t : TypeId} {x i : SV} {ok : Bool} {l : List (Bool × SV)} {d : SV} (h : lookR P m t x i ok = some (l,d)) :
  (Instr.lookup t (x.den E) (i.den E) ok).run P w = .ok ((pickA d l).den E) w ∧ (pickA d l).Ok H := by
 unfold lookR at h
 split at h
 ·rename_i kt et key k n ht
  split at h
  ·rename_i k' es inf hkt hm hinf
   split at h
   ·rename_i hk
    subst hk
    split at h
    ·rename_i l' z hl hz
     cases h
     obtain ⟨_,_,⟨ents,clock,hb,he,hst⟩,hok,hkeys⟩ := g.own key _ (Mem.get_mem hm)
     have hkey : IsKey (.int k') (.int k' n) := rfl
     have hzero : (zeroValue et).run P w = .ok z w := by simp [zeroValue,typeInfo,hinf,hz]
     obtain ⟨e1,e2⟩ := ents_of he
     obtain ⟨l1,l2⟩ := lookA_spec (d := ofVal z) ok hl
     have hint : ∀ e,e ∈ ents.toList → ∃ n',e.key = .int k' n' := fun e hee=>by
      obtain ⟨x,hx,h1,_⟩ := e1 e hee
      obtain ⟨n',hn'⟩ := l1 x hx
      exact ⟨n',by rw [h1,hn']; simp [SV.den]⟩
     have hfind := findNow_spec (n := n) 0 hint
     rcases l2 with ⟨h1,h2⟩ | ⟨x,hx,h1,h2⟩
     ·rw [h2]
      have hf : Instr.findNow (.int k') (.int k' n) ents.toList 0 = some none := by
       rcases hfind with ⟨h3,_⟩ | ⟨i',e,h3,h4,h5⟩
       ·exact h3
       ·exfalso
        obtain ⟨y,hy,h6,_⟩ := e1 e h4
        obtain ⟨n',hn'⟩ := l1 y hy
        rw [h5,hn'] at h6
        simp only [SV.den,Value.int.injEq,true_and] at h6
        exact h1 y hy (by rw [hn',h6])
      refine ⟨?_,okd_ok _ (ok_ofVal H z)⟩
      rw [okd_den,den_ofVal]
      simp only [SV.den,Instr.lookup,Sem.run_bind,run_underlying ht,Result.andThen_ok,MapKept.run_getObj_map hb,Sem.run_pure,run_checkKey hkt hkey,run_findKey hkt hf,hzero]
      try rfl
     ·rw [h2]
      obtain ⟨i',hf⟩ : ∃ i',Instr.findNow (.int k') (.int k' n) ents.toList 0 = some (some (i',x.2.den E)) := by
       rcases hfind with ⟨_,h3⟩ | ⟨i',e,h3,h4,h5⟩
       ·exfalso
        obtain ⟨e,hee,h4,_⟩ := e2 x hx
        exact h3 e hee (by rw [h4,h1]; simp [SV.den])
       ·obtain ⟨y,hy,h6,h7⟩ := e1 e h4
        obtain ⟨n',hn'⟩ := l1 y hy
        rw [h5,hn'] at h6
        simp only [SV.den,Value.int.injEq,true_and] at h6
        have : y = x := pair_unique hkeys.2 hy hx (by rw [hn',h1,h6])
        subst this
        exact ⟨i',by rw [h3,h7]⟩
      refine ⟨?_,okd_ok _ (hok x hx).2⟩
      rw [okd_den]
      simp only [SV.den,Instr.lookup,Sem.run_bind,run_underlying ht,Result.andThen_ok,MapKept.run_getObj_map hb,Sem.run_pure,run_checkKey hkt hkey,run_findKey hkt hf]
      try rfl
    ·cases h
   ·cases h
  ·rename_i k' kk ag ts d0 inf hkt hm hinf
   split at h
   ·rename_i hk
    obtain ⟨rfl,rfl⟩ := hk
    split at h
    ·rename_i z hz
     cases h
     obtain ⟨_,_,⟨ents,clock,hb,he,hst⟩,hok,hkeys⟩ := g.own key _ (Mem.get_mem hm)
     have hkey : IsKey (.int kk) (.int kk n) := rfl
     have hzero : (zeroValue et).run P w = .ok z w := by simp [zeroValue,typeInfo,hinf,hz]
     have hkk : ∀ e,e ∈ mapEs kk ag ts d0 → ∃ n',e.1 = .int kk n' := fun e hee=>by
      obtain ⟨i,_,rfl⟩ := mem_mapEs.1 hee
      exact ⟨_,rfl⟩
     rcases map_find (n := n) he hkk hkeys.2 with ⟨hf,hno⟩ | ⟨j,e,x,hf,hj,hek,hx,hxn,hv⟩
     ·have hkn : d0.hasKey n = false := by
       rw [Bool.eq_false_iff]
       intro hh
       obtain ⟨i,hi,hin⟩ := hasKey_iff.1 hh
       exact hno _ (mem_mapEs.2 ⟨i,hi,rfl⟩) (by rw [hin])
      simp only [pickA,hkn]
      refine ⟨?_,okd_ok _ (ok_ofVal H z)⟩
      rw [okd_den,den_ofVal]
      simp only [SV.den,Instr.lookup,Sem.run_bind,run_underlying ht,Result.andThen_ok,MapKept.run_getObj_map hb,Sem.run_pure,run_checkKey hkt hkey,run_findKey hkt hf,hzero]
      try rfl
     ·obtain ⟨i,hi,rfl⟩ := mem_mapEs.1 hx
      simp only [SV.int.injEq,true_and] at hxn
      have hkn : d0.hasKey n = true := hasKey_iff.2 ⟨i,hi,hxn⟩
      obtain ⟨hlt,hgi⟩ := keyIx_lt hkn
      have hii : i = d0.keyIx n := keys_distinct hkeys hi hlt (by rw [hgi,hxn])
      subst hii
      simp only [pickA,hkn]
      refine ⟨?_,okd_ok _ (hok _ hx).2⟩
      rw [okd_den]
      rw [hv] at hf
      simp only [SV.den,Instr.lookup,Sem.run_bind,run_underlying ht,Result.andThen_ok,MapKept.run_getObj_map hb,Sem.run_pure,run_checkKey hkt hkey,run_findKey hkt hf]
      try rfl
    ·cases h
   ·cases h
  ·cases h
 ·cases h

theorem newK_spec {k : IntKind} {n : Int} {es : List (SV × SV)} (h : newK k n es = true) : ∀ e,e ∈ es → ∃ n',e.1 = .int k n' ∧ n ≠ n' := by
 intro e he
 have := List.all_eq_true.1 h e he
 split at this
 ·rename_i k2 n2 hk
  simp only [Bool.and_eq_true,decide_eq_true_eq,Bool.not_eq_true',beq_eq_false_iff_ne,ne_eq] at this
  exact ⟨n2,by rw [hk,this.1],this.2⟩
 ·cases this

theorem insE_perm (k : IntKind) (n : Int) (v : SV) : ∀ es : List (SV × SV),(insE k n v es).Perm ((.int k n,v) :: es)
 | []=>List.Perm.refl _
 | e :: r=>by
  simp only [insE]
  split
  ·exact List.Perm.refl _
  ·exact ((insE_perm k n v r).cons e).trans (List.Perm.swap _ _ _)

theorem keysOk_ins {k : IntKind} {n : Int} {v : SV} {es : List (SV × SV)} (h : KeysOk es) (hn : newK k n es = true) : KeysOk (insE k n v es) := by
 have hp := insE_perm k n v es
 refine ⟨fun e he=>?_,?_⟩
 ·rcases List.mem_cons.1 (hp.subset he) with rfl | he
  ·exact ⟨k,n,rfl⟩
  ·exact h.1 e he
 ·refine (hp.pairwise_iff (fun {a b} (h : a.1 ≠ b.1)=>h.symm)).2 (List.pairwise_cons.2 ⟨fun e he=>?_,h.2⟩)
  obtain ⟨n',h1,h2⟩ := newK_spec hn e he
  rw [h1]
  simpa using h2

theorem insOk_spec {t : TypeId} {x i : SV} {K : Nat} {k : IntKind} {n : Int} (h : insOk P m t x i = some (K,k,n)) :
  ∃ kt et es,P.underlying t = some (.map kt et) ∧ P.underlying kt = some (.int k) ∧ x = .mapp K ∧ i = .int k n ∧ m.get K = some (.map es) ∧ newK k n es = true := by
 unfold insOk at h
 split at h
 ·rename_i kt et key k1 n1 ht
  split at h
  ·rename_i k' es hkt hm
   split at h
   ·rename_i hc
    obtain ⟨rfl,hall⟩ := hc
    cases h
    exact ⟨kt,et,es,ht,hkt,rfl,rfl,hm,hall⟩
   ·cases h
  ·cases h
 ·cases h

theorem insOk_of {t : TypeId} {x i : SV} {K : Nat} {k : IntKind} {n : Int} {kt et : TypeId} {es : List (SV × SV)} (h1 : P.underlying t = some (.map kt et)) (h2 : P.underlying kt = some (.int k)) (h3 : x = .mapp K) (h4 : i = .int k n)
  (h5 : m.get K = some (.map es)) (h6 : newK k n es = true) : insOk P m t x i = some (K,k,n) := by
 subst h3; subst h4
 simp [insOk,h1,h2,h5,h6]

theorem fits_cell {x : SV} {t : FT} (h : x.fits t = true) {dd : D} (hd : x.cellD = some dd) {d : D} {i j : Nat} (hc : d.cellAt i j = some dd) (hx : x.Ok H) : (cellSV d i j t).den E = x.den E ∧ (cellSV d i j t).Ok H := by
 cases x <;> cases t <;> simp only [SV.fits,decide_eq_true_eq] at h <;> try cases h
 all_goals simp only [SV.cellD,Option.some.injEq] at hd
 all_goals subst hd
 all_goals simp [cellSV,D.getInt,D.getBool,D.getStr,D.cell,hc,SV.den,SV.Ok,D.val,hval]
 ·exact ⟨.nil 0,none,0,[],rfl⟩
 ·exact hx

theorem fits_cells : ∀ {vs : List SV} {ts : List FT} {ds : List D},fitsL vs ts = true → cellDs vs = some ds → SV.OkL H vs → ∀ {d : D} {i j : Nat},(∀ q dd,ds[q]? = some dd → d.cellAt i (j + q) = some dd) →
  SV.denL E (cellsSV d i j ts) = SV.denL E vs ∧ SV.OkL H (cellsSV d i j ts)
 | [],[],_,_,_,_,_,_,_,_=>by simp [cellsSV,SV.OkL]
 | x :: r,t :: s,ds,h,hd,hx,d,i,j,hc=>by
  simp only [fitsL,Bool.and_eq_true] at h
  simp only [cellDs] at hd
  split at hd
  ·rename_i dd l h1 h2
   cases hd
   simp only [SV.OkL] at hx
   obtain ⟨a1,a2⟩ := fits_cell (E := E) (j := j) h.1 h1 (by simpa using hc 0 dd (by simp)) hx.1
   obtain ⟨b1,b2⟩ := fits_cells (j := j + 1) h.2 h2 hx.2 (fun q dd' hq=>by rw [show j + 1 + q = j + (q + 1) from by omega]; exact hc (q + 1) dd' (by simpa using hq))
   exact ⟨by simp only [cellsSV,SV.denL,a1,b1],by simp only [cellsSV,SV.OkL]; exact ⟨a2,b2⟩⟩
  ·cases hd
 | [],_ :: _,_,h,_,_,_,_,_,_=>by simp [fitsL] at h
 | _ :: _,[],_,h,_,_,_,_,_,_=>by simp [fitsL] at h

theorem fitsV_map {ag : Bool} {ts : List FT} {v : SV} {vs : List SV} (h : fitsV ag ts v = some vs) {ds : List D} (hd : cellDs vs = some ds) (hv : v.Ok H) {d : D} {i : Nat} {k : IntKind} {n : Int} (hr : d.rows[i]? = some (.int k n :: ds)) :
  (mapSV ag ts d i).den E = v.den E ∧ (mapSV ag ts d i).Ok H := by
 have hc : ∀ q dd,ds[q]? = some dd → d.cellAt i (1 + q) = some dd := fun q dd hq=>by
  simp only [D.cellAt,hr,Option.bind_some,show 1 + q = q + 1 from by omega,List.getElem?_cons_succ,hq]
 unfold fitsV at h
 split at h
 ·split at h
  ·rename_i vs' hf
   cases h
   simp only [SV.Ok] at hv
   obtain ⟨a,b⟩ := fits_cells (E := E) hf hd hv hc
   exact ⟨by simp only [mapSV,SV.den,a],by simp only [mapSV,SV.Ok]; exact b⟩
  ·cases h
 ·cases h
 ·split at h
  ·rename_i t
   split at h
   ·rename_i hf
    cases h
    simp only [cellDs] at hd
    split at hd
    ·rename_i dd l h1 h2
     cases hd
     exact fits_cell hf h1 (hc 0 dd (by simp)) hv
    ·cases hd
   ·cases h
  ·cases h
 ·cases h

theorem putKey_get (d : D) (k : IntKind) (n : Int) (ds : List D) :
  (d.hasKey n = true → (d.putKey k n ds).len = d.len ∧ (d.putKey k n ds).rows[d.keyIx n]? = some (.int k n :: ds) ∧ ∀ i,i ≠ d.keyIx n → (d.putKey k n ds).rows[i]? = d.rows[i]?) ∧
  (d.hasKey n = false → (d.putKey k n ds).len = d.len + 1 ∧ (d.putKey k n ds).rows[d.len]? = some (.int k n :: ds) ∧ ∀ i,i < d.len → (d.putKey k n ds).rows[i]? = d.rows[i]?) := by
 constructor
 ·intro h
  have hlt := (keyIx_lt h).1
  simp only [D.putKey,h,if_true,D.rows,D.len]
  refine ⟨by simp,?_,fun i hi=>?_⟩
  ·rw [List.getElem?_set_self]; exact hlt
  ·rw [List.getElem?_set_ne (Ne.symm hi)]
 ·intro h
  simp only [D.putKey,h,D.rows,D.len]
  refine ⟨by simp,by simp,fun i hi=>?_⟩
  simp only [Bool.false_eq_true,if_false]
  exact List.getElem?_append_left hi

theorem cellAt_row {d d' : D} {i : Nat} (h : d'.rows[i]? = d.rows[i]?) (j : Nat) : d'.cellAt i j = d.cellAt i j := by simp only [D.cellAt,h]
theorem cellSV_row {d d' : D} {i : Nat} (h : d'.rows[i]? = d.rows[i]?) (j : Nat) (t : FT) : cellSV d' i j t = cellSV d i j t := by
 cases t <;> simp only [cellSV,D.getInt,D.getBool,D.getStr,D.cell,cellAt_row h]
theorem cellsSV_row {d d' : D} {i : Nat} (h : d'.rows[i]? = d.rows[i]?) : ∀ (j : Nat) (ts : List FT),cellsSV d' i j ts = cellsSV d i j ts
 | _,[]=>rfl
 | j,t :: r=>by simp only [cellsSV,cellSV_row h,cellsSV_row h (j + 1) r]
theorem mapSV_row {d d' : D} {i : Nat} (h : d'.rows[i]? = d.rows[i]?) (ag : Bool) (ts : List FT) : mapSV ag ts d' i = mapSV ag ts d i := by
 unfold mapSV; split
 ·exact cellSV_row h ..
 ·rw [cellsSV_row h]
theorem getInt_cell {d d' : D} {i : Nat} (h : d'.rows[i]? = d.rows[i]?) : d'.getInt i 0 = d.getInt i 0 := by simp only [D.getInt,cellAt_row h]

theorem insD_spec (g : Good C m E H w) {t : TypeId} {x i v : SV} {m' : Mem} (hv : v.Ok H) (h : insD P m t x i v = some m') :
  ∃ w',(Instr.mapUpdate t (x.den E) (i.den E) (v.den E)).run P w = .ok () w' ∧ Good C m' E H w' ∧ ∀ key,Keeps m E H w key m' E H w' := by
 unfold insD at h
 split at h
 ·rename_i kt et key k n ht
  split at h
  ·rename_i k' kk ag ts d hkt hm
   split at h
   ·rename_i vs hf
    split at h
    ·rename_i ds hds
     split at h
     ·rename_i hk
      obtain ⟨rfl,rfl⟩ := hk
      cases h
      have hmem := Mem.get_mem hm
      obtain ⟨h1,h2,⟨ents,clock,hb,he,hst⟩,hok,hkeys⟩ := g.own key _ hmem
      have hkey : IsKey (.int kk) (.int kk n) := rfl
      have hlt : E.b key < w.heap.size := (Array.getElem?_eq_some_iff.1 hb).1
      have hkk : ∀ e,e ∈ mapEs kk ag ts d → ∃ n',e.1 = .int kk n' := fun e hee=>by
       obtain ⟨i,_,rfl⟩ := mem_mapEs.1 hee
       exact ⟨_,rfl⟩
      have put : ∀ (ents' : Array MapEntry) (clockk : Nat),(Instr.mapUpdate t ((SV.mapp key).den E) ((SV.int kk n).den E) (v.den E)).run P w = .ok () { w with heap := w.heap.setIfInBounds (E.b key) (.map ents' clockk) } →
        (ents'.toList.map (fun e=>(e.key,e.val))).Perm ((mapEs kk ag ts (d.putKey kk n ds)).map (fun e=>(e.1.den E,e.2.den E))) → (∀ e,e ∈ mapEs kk ag ts (d.putKey kk n ds) → e.1.Ok H ∧ e.2.Ok H) → KeysOk (mapEs kk ag ts (d.putKey kk n ds)) → Stamps ents' clockk →
        ∃ w',(Instr.mapUpdate t ((SV.mapp key).den E) ((SV.int kk n).den E) (v.den E)).run P w = .ok () w' ∧ Good C (m.set key (.mapD kk ag ts (d.putKey kk n ds))) E H w' ∧ ∀ q,Keeps m E H w q (m.set key (.mapD kk ag ts (d.putKey kk n ds))) E H w' := by
       intro ents' clockk hrun hpm hokk hky' hstt
       refine ⟨_,hrun,?_,fun q=>?_⟩
       ·exact g.put hm (fun j hj=>by simp [Ne.symm hj]) rfl rfl rfl (by simp) trivial ⟨h1,h2,⟨ents',clockk,by simp [hlt],hpm,hstt⟩,hokk,hky'⟩
       ·have hspec := Mem.set_spec (o' := .mapD kk ag ts (d.putKey kk n ds)) g.keys hm
        refine ⟨by simp,fun j hj hno=>by simp [(fun e=>hno key _ hmem trivial e : E.b key ≠ j)],fun _ _ _ h=>.inl h,fun q o hq=>?_,fun q o hq hl2=>?_,rfl,rfl,rfl⟩
        ·rcases hspec q o hq with ⟨rfl,_⟩ | ⟨_,h⟩
         ·exact .inr ⟨_,hmem⟩
         ·exact .inr ⟨o,h⟩
        ·rcases hspec q o hq with ⟨rfl,_⟩ | ⟨_,h⟩
         ·exact .inr ⟨q,_,hmem,trivial,rfl⟩
         ·exact .inr ⟨q,o,h,hl2,rfl⟩
      have hpw : ((mapEs kk ag ts d).map (fun e=>(e.1.den E,e.2.den E))).Pairwise fun x y=>x.1 ≠ y.1 := by
       rw [List.pairwise_map]
       refine hkeys.2.imp_of_mem ?_
       intro a b ha hb' hab
       obtain ⟨n1,e1⟩ := hkk a ha
       obtain ⟨n2,e2⟩ := hkk b hb'
       rw [e1,e2] at hab ⊢
       simp only [ne_eq,SV.int.injEq,true_and] at hab
       simp [SV.den,hab]
      rcases map_find (n := n) he hkk hkeys.2 with ⟨hf',hno⟩ | ⟨j,e,x,hf',hj,hek,hx,hxn,hve⟩
      ·-- it is new
       have hkn : d.hasKey n = false := by
        rw [Bool.eq_false_iff]
        intro hh
        obtain ⟨i,hi,hin⟩ := hasKey_iff.1 hh
        exact hno _ (mem_mapEs.2 ⟨i,hi,rfl⟩) (by rw [hin])
       obtain ⟨p1,p2,p3⟩ := (putKey_get d kk n ds).2 hkn
       obtain ⟨q1,q2⟩ := fitsV_map (E := E) (H := H) hf hds hv p2
       have hes : mapEs kk ag ts (d.putKey kk n ds) = mapEs kk ag ts d ++ [(.int kk n,mapSV ag ts (d.putKey kk n ds) d.len)] := by
        simp only [mapEs,p1,List.range_succ,List.map_append,List.map_cons,List.map_nil]
        congr 1
        ·apply List.map_congr_left
         intro i hi
         have hi' := p3 i (List.mem_range.1 hi)
         rw [getInt_cell hi',mapSV_row hi']
        ·rw [getInt_row p2]; rfl
       refine put (ents.push { key := .int kk n,val := v.den E,born := clock }) (clock + 1) ?_ ?_ ?_ ?_ (hst.push _ _)
       ·simp only [SV.den,Instr.mapUpdate,Sem.run_bind,run_underlying ht,Result.andThen_ok,MapKept.run_getObj_map hb,run_checkKey hkt hkey,run_findKey hkt hf']
        exact run_setObj_map _ hb
       ·rw [hes]
        simp only [Array.toList_push,List.map_append,List.map_cons,List.map_nil,SV.den,q1]
        exact he.append_right _
       ·rw [hes]
        intro e hee
        rcases List.mem_append.1 hee with hee | hee
        ·exact hok e hee
        ·rw [List.mem_singleton] at hee; subst hee; exact ⟨by simp [SV.Ok],q2⟩
       ·rw [hes]
        refine ⟨fun e hee=>?_,?_⟩
        ·rcases List.mem_append.1 hee with hee | hee
         ·exact hkeys.1 e hee
         ·rw [List.mem_singleton] at hee; subst hee; exact ⟨_,_,rfl⟩
        ·rw [List.pairwise_append]
         refine ⟨hkeys.2,List.pairwise_singleton _ _,fun a ha b hb'=>?_⟩
         rw [List.mem_singleton] at hb'; subst hb'
         exact hno a ha
      ·-- another value for what is there
       obtain ⟨i,hi,rfl⟩ := mem_mapEs.1 hx
       simp only [SV.int.injEq,true_and] at hxn
       have hkn : d.hasKey n = true := hasKey_iff.2 ⟨i,hi,hxn⟩
       obtain ⟨hlt2,hgi⟩ := keyIx_lt hkn
       have hii : i = d.keyIx n := keys_distinct hkeys hi hlt2 (by rw [hgi,hxn])
       subst hii
       obtain ⟨p1,p2,p3⟩ := (putKey_get d kk n ds).1 hkn
       obtain ⟨q1,q2⟩ := fitsV_map (E := E) (H := H) hf hds hv p2
       have hes : mapEs kk ag ts (d.putKey kk n ds) = (mapEs kk ag ts d).set (d.keyIx n) (.int kk n,mapSV ag ts (d.putKey kk n ds) (d.keyIx n)) := by
        apply List.ext_getElem?
        intro q
        by_cases hq : q < d.len
        ·rw [get_mapEs (by rw [p1]; exact hq)]
         by_cases hqi : q = d.keyIx n
         ·subst hqi
          rw [List.getElem?_set_self (by rw [len_mapEs]; exact hq),getInt_row p2]; rfl
         ·rw [List.getElem?_set_ne (Ne.symm hqi),get_mapEs hq,getInt_cell (p3 q hqi),mapSV_row (p3 q hqi)]
        ·rw [List.getElem?_eq_none (by rw [len_mapEs,p1]; omega),List.getElem?_eq_none (by rw [List.length_set,len_mapEs]; omega)]
       have hsb : Instr.sameBits 10000 (.int kk n) (.int kk n) = true := by simp [Instr.sameBits]
       have hkj : (ents[j]?).map (·.key) = some (.int kk n) := by rw [← Array.getElem?_toList,hj]; simp [hek]
       refine put (ents.modify j fun e=>{ e with key := .int kk n,val := v.den E }) clock ?_ ?_ ?_ ?_ (hst.modify _ _ _)
       ·simp only [SV.den,Instr.mapUpdate,Sem.run_bind,run_underlying ht,Result.andThen_ok,MapKept.run_getObj_map hb,run_checkKey hkt hkey,run_findKey hkt hf',hkj,Option.getD_some,Instr.keyThatStays,hsb,if_true,Sem.run_pure]
        exact run_setObj_map _ hb
       ·rw [hes]
        have e1 : (ents.modify j fun e=>{ e with key := .int kk n,val := v.den E }).toList.map (fun e=>(e.key,e.val)) = (ents.toList.map (fun e=>(e.key,e.val))).set j (.int kk n,v.den E) := by
         apply List.ext_getElem?
         intro q
         by_cases hq : j = q
         ·subst hq
          have hjl : j < (ents.toList.map (fun e=>(e.key,e.val))).length := by rw [List.length_map]; exact (List.getElem?_eq_some_iff.1 hj).1
          rw [List.getElem?_set_self hjl,List.getElem?_map,Array.getElem?_toList,Array.getElem?_modify,← Array.getElem?_toList,hj]
          simp
         ·rw [List.getElem?_set_ne hq,List.getElem?_map,List.getElem?_map,Array.getElem?_toList,Array.getElem?_modify,if_neg hq,Array.getElem?_toList]
        rw [e1,List.map_set]
        simp only [SV.den,q1]
        refine perm_set (a := .int kk n) (b := e.val) (b' := (mapSV ag ts d (d.keyIx n)).den E) he hpw ?_ ?_ _
        ·rw [List.getElem?_map,hj,Option.map_some,hek]
        ·rw [List.getElem?_map,get_mapEs hlt2,hgi]; rfl
       ·rw [hes]
        intro e hee
        rcases List.mem_or_eq_of_mem_set hee with hee | rfl
        ·exact hok e hee
        ·exact ⟨by simp [SV.Ok],q2⟩
       ·have hfst : (mapEs kk ag ts (d.putKey kk n ds)).map (·.1) = (mapEs kk ag ts d).map (·.1) := by
         rw [hes,List.map_set]
         apply List.ext_getElem?
         intro q
         by_cases hq : d.keyIx n = q
         ·subst hq
          rw [List.getElem?_set_self (by rw [List.length_map,len_mapEs]; exact hlt2),List.getElem?_map,get_mapEs hlt2,hgi]; rfl
         ·rw [List.getElem?_set_ne hq]
        refine ⟨fun e hee=>?_,?_⟩
        ·obtain ⟨i,_,rfl⟩ := mem_mapEs.1 hee
         exact ⟨_,_,rfl⟩
        ·have h3 : ((mapEs kk ag ts d).map (·.1)).Pairwise (· ≠ ·) := by rw [List.pairwise_map]; exact hkeys.2
         rw [← hfst,List.pairwise_map] at h3
         exact h3
     ·cases h
    ·cases h
   ·cases h
  ·cases h
 ·cases h

theorem insR_spec (g : Good C m E H w) {t : TypeId} {x i v : SV} {m' : Mem} (hv : v.Ok H) (h : insR P m t x i v = some m') :
  ∃ w',(Instr.mapUpdate t (x.den E) (i.den E) (v.den E)).run P w = .ok () w' ∧ Good C m' E H w' ∧ ∀ key,Keeps m E H w key m' E H w' := by
 unfold insR at h
 split at h
 ·rename_i key k' n hins
  obtain ⟨kt,et,es,ht,hkt,rfl,rfl,hm,hall⟩ := insOk_spec hins
  simp only [hm,insO,Option.some.injEq] at h
  subst h
  have hmem := Mem.get_mem hm
  obtain ⟨h1,h2,⟨ents,clock,hb,he,hst⟩,hok,hkeys⟩ := g.own key _ hmem
  have hkey : IsKey (.int k') (.int k' n) := rfl
  obtain ⟨e1,_⟩ := ents_of he
  have hfind : Instr.findNow (.int k') (.int k' n) ents.toList 0 = some none := by
   rcases findNow_spec (k := k') (n := n) (ents := ents.toList) 0 (fun e hee=>by
    obtain ⟨y,hy,h6,_⟩ := e1 e hee
    obtain ⟨n',h7,_⟩ := newK_spec hall y hy
    exact ⟨n',by rw [h6,h7]; simp [SV.den]⟩) with ⟨h3,_⟩ | ⟨i',e,h3,h4,h5⟩
   ·exact h3
   ·exfalso
    obtain ⟨y,hy,h6,_⟩ := e1 e h4
    obtain ⟨n',h7,h8⟩ := newK_spec hall y hy
    rw [h5,h7] at h6
    simp only [SV.den,Value.int.injEq,true_and] at h6
    exact h8 h6
  have hlt : E.b key < w.heap.size := (Array.getElem?_eq_some_iff.1 hb).1
  refine ⟨{ w with heap := w.heap.setIfInBounds (E.b key) (.map (ents.push { key := .int k' n,val := v.den E,born := clock }) (clock + 1)) },?_,?_,fun q=>?_⟩
  ·simp only [SV.den,Instr.mapUpdate,Sem.run_bind,run_underlying ht,Result.andThen_ok,MapKept.run_getObj_map hb,run_checkKey hkt hkey,run_findKey hkt hfind]
   exact run_setObj_map _ hb
  ·refine g.put hm (fun j hj=>by simp [Ne.symm hj]) rfl rfl rfl (by simp) trivial ⟨h1,h2,⟨ents.push { key := .int k' n,val := v.den E,born := clock },clock + 1,by simp [hlt],?_,hst.push _ _⟩,fun e he'=>?_,keysOk_ins hkeys hall⟩
   ·simp only [Array.toList_push,List.map_append,List.map_cons,List.map_nil]
    refine (List.perm_append_comm.trans ?_)
    simp only [List.singleton_append]
    refine ((he.cons _).trans ?_)
    have := ((insE_perm k' n v es).map (fun e=>(e.1.den E,e.2.den E))).symm
    simpa [SV.den] using this
   ·rcases List.mem_cons.1 ((insE_perm k' n v es).subset he') with rfl | h3
    ·exact ⟨by simp [SV.Ok],hv⟩
    ·exact hok e h3
  ·have hspec := Mem.set_spec (o' := .map (insE k' n v es)) g.keys hm
   refine ⟨by simp,fun j hj hno=>by simp [(fun e=>hno key _ hmem trivial e : E.b key ≠ j)],fun _ _ _ h=>.inl h,fun q o hq=>?_,fun q o hq hl2=>?_,rfl,rfl,rfl⟩
   ·rcases hspec q o hq with ⟨rfl,_⟩ | ⟨_,h⟩
    ·exact .inr ⟨_,hmem⟩
    ·exact .inr ⟨o,h⟩
   ·rcases hspec q o hq with ⟨rfl,_⟩ | ⟨_,h⟩
    ·exact .inr ⟨q,_,hmem,trivial,rfl⟩
    ·exact .inr ⟨q,o,h,hl2,rfl⟩
 ·exact insD_spec g hv h
theorem insE_comm {k k' : IntKind} {n n' : Int} {v v' : SV} (h : n ≠ n') : ∀ es : List (SV × SV),insE k n v (insE k' n' v' es) = insE k' n' v' (insE k n v es)
 | []=>by
  by_cases h1 : n < n'
  ·have : ¬ n' < n := by omega
   simp [insE,keyGt,h1,this]
  ·have : n' < n := by omega
   simp [insE,keyGt,h1,this]
 | e :: r=>by
  have ih := insE_comm (k := k) (k' := k') (v := v) (v' := v') h r
  obtain ⟨a,u⟩ := e
  -- is it behind this one?
  have key : ∀ (k : IntKind) (n : Int) (v : SV) (l : List (SV × SV)),insE k n v ((a,u) :: l) = if keyGt n a = true then (.int k n,v) :: (a,u) :: l else (a,u) :: insE k n v l := by
   intro k n v l
   simp only [insE]
   split <;> simp_all
  have front : ∀ (k k' : IntKind) (n n' : Int) (v v' : SV) (l : List (SV × SV)),insE k n v ((.int k' n',v') :: l) = if n < n' then (.int k n,v) :: (.int k' n',v') :: l else (.int k' n',v') :: insE k n v l := by
   intro k k' n n' v v' l
   by_cases hlt : n < n' <;> simp [insE,keyGt,hlt]
  rw [key k' n' v',key k n v]
  by_cases c1 : keyGt n' a = true <;> by_cases c2 : keyGt n a = true
  ·rw [if_pos c1,if_pos c2,front,front,key k n v,key k' n' v',if_pos c1,if_pos c2]
   by_cases hlt : n < n'
   ·have : ¬ n' < n := by omega
    simp [hlt,this]
   ·have : n' < n := by omega
    simp [hlt,this]
  ·rw [if_pos c1,if_neg c2,front,key k n v,key k' n' v',if_neg c2,if_pos c1]
   have : ¬ n < n' := by
    cases a <;> simp [keyGt] at c1 c2
    omega
   simp [this]
  ·rw [if_neg c1,if_pos c2,front,key k n v,key k' n' v',if_pos c2,if_neg c1]
   have : ¬ n' < n := by
    cases a <;> simp [keyGt] at c1 c2
    omega
   simp [this]
  ·rw [if_neg c1,if_neg c2,key k n v,key k' n' v',if_neg c1,if_neg c2,ih]

theorem newK_ins {k k' : IntKind} {n n' : Int} {v' : SV} {es : List (SV × SV)} : newK k n (insE k' n' v' es) = true ↔ (k' = k ∧ n ≠ n') ∧ newK k n es = true := by
 unfold newK
 have hp := insE_perm k' n' v' es
 rw [hp.all_eq]
 simp [and_assoc]

theorem bytes_spec (g : Good C m E H w) {src dst e : TypeId} {x : SV} {d : D} (hx : x.Ok H) (hd : dataOf m x = some d) (hb : d.IsBytes)
  (hs : P.underlying src = some (.slice e)) (he : P.underlying e = some (.int .u8)) (ht : P.underlying dst = some .string) :
  (convert src dst (x.den E)).run P w = .ok (.string d.bytesOf) w := by
 obtain ⟨hv,hr,_⟩ := dataOf_spec g hx hd
 obtain ⟨ns,hns⟩ := hb
 have hfold : d.bytesOf = ns.foldl (fun r n=>r.push (UInt8.ofNat n.toNat)) ByteArray.empty := by
  simp only [D.bytesOf,hns,List.foldl_map]
 rcases hr.2 with ⟨h1,h2⟩ | ⟨a,c,h1,h2⟩
 ·rw [h1,run_convert_bytes_string w src dst e _ _ _ hs he ht]
  have : ns = [] := by rw [hns] at h2; simpa using h2
  rw [hfold,this]
  simp [Conv.bytesToString]
 ·rw [h1,run_convert_bytes_string w src dst e _ _ _ hs he ht,hfold]
  refine run_bytesToString w a _ c ns ?_
  have hf : flat d.rows = ns.map (Value.int .u8) := by
   rw [hns]; simp only [flat]
   clear hns hfold
   induction ns with
   | nil=>rfl
   | cons a r ih=>simp only [List.map_cons,List.flatten_cons,List.map_append,ih]; rfl
  have := run_loadCells_list (P := P) w a (flat d.rows) h2
  rw [hf] at this
  rw [hns]
  simpa using this
end
end Sx
end
