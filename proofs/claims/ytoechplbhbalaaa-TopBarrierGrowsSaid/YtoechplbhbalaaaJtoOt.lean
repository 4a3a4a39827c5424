/- One operation: what it gives; and that the model gives the same. -/
import Derived.Test.YtoechplbhbalaaaAtoJa
import Derived.Scope
import Derived.RangeFuncRecord
import Derived.OrdersHeld
set_option linter.all false
set_option maxRecDepth 100000
set_option maxHeartbeats 0
noncomputable section
namespace Sx
open Go RowKit

theorem pubsR_spec {C : Ctx} {E : Env} {w : World} : ∀ (l : List SV) {m : Mem} {H : HV},Good C m E H w → ∃ H',HLe H H' ∧ Good C (pubsR l m) E H' w ∧
  (∀ b o v,H' b o = some v → H b o = some v ∨ ∃ k o,(k,o) ∈ m ∧ o.Lies ∧ E.b k = b)
 | [],m,H,g=>⟨H,HLe.refl H,g,fun _ _ _ h=>.inl h⟩
 | x :: r,m,H,g=>by
  obtain ⟨H1,h1,g1,_,n1⟩ := pubR_spec g x
  obtain ⟨H2,h2,g2,n2⟩ := pubsR_spec r g1
  refine ⟨H2,h1.trans h2,g2,fun b o v hb=>?_⟩
  rcases n2 b o v hb with h | ⟨k,p,h3,h4,h5⟩
  ·exact n1 b o v h
  ·exact .inr ⟨k,p,(pubR_mem k p h3).2 h4,h4,h5⟩

theorem pubsR_mem : ∀ (l : List SV) {m : Mem} (k : Nat) (o : OBlk),(k,o) ∈ pubsR l m → (∃ o',(k,o') ∈ m) ∧ (o.Lies → (k,o) ∈ m)
 | [],m,k,o,h=>⟨⟨o,h⟩,fun _=>h⟩
 | x :: r,m,k,o,h=>by
  obtain ⟨⟨o',h1⟩,h2⟩ := pubsR_mem r k o h
  exact ⟨(pubR_mem k o' h1).1,fun hl=>(pubR_mem k o (h2 hl)).2 hl⟩
theorem keeps_pub {m m' : Mem} {E : Env} {H H' : HV} {w : World} {key : Nat} (h1 : ∀ k o,(k,o) ∈ m' → (∃ o',(k,o') ∈ m) ∧ (o.Lies → (k,o) ∈ m))
  (h2 : ∀ b o v,H' b o = some v → H b o = some v ∨ ∃ k o,(k,o) ∈ m ∧ o.Lies ∧ E.b k = b) : Keeps m E H w key m' E H' w :=
 ⟨Nat.le_refl _,fun _ _ _=>rfl,fun b x v h=>(h2 b x v h).imp id .inr,fun k o h=>.inr (h1 k o h).1,fun k o h hl=>.inr ⟨k,o,(h1 k o h).2 hl,hl,rfl⟩,rfl,rfl,rfl⟩

theorem Mem.has_iff {m : Mem} {k : Nat} : Mem.has k m = false ↔ k < PIN ∧ ∀ x,x ∈ m → x.1 ≠ k ∧ x.2.has k = false := by
 refine ⟨fun h=>⟨Mem.has_lt h,Mem.has_key h⟩,fun ⟨h1,h2⟩=>?_⟩
 have h3 : Nat.ble PIN k = false := by
  cases h : Nat.ble PIN k with
  | false=>rfl
  | true=>have := Nat.le_of_ble_eq_true h; omega
 simp only [Mem.has,h3,Bool.false_or,List.any_eq_false,Bool.or_eq_true,beq_iff_eq,not_or,Bool.not_eq_true]
 exact h2

theorem Mem.set_any {m : Mem} {j : Nat} {o : OBlk} {x : Nat × OBlk} (h : x ∈ m.set j o) : (∃ p,(x.1,p) ∈ m) ∧ (x ∈ m ∨ x.2 = o) := by
 induction m with
 | nil=>cases h
 | cons y r ih =>
  obtain ⟨i,p⟩ := y
  simp only [Mem.set] at h
  split at h
  ·rcases List.mem_cons.1 h with h | h
   ·rw [h]; exact ⟨⟨p,List.mem_cons_self⟩,.inr rfl⟩
   ·exact ⟨⟨x.2,List.mem_cons_of_mem _ h⟩,.inl (List.mem_cons_of_mem _ h)⟩
  ·rcases List.mem_cons.1 h with h | h
   ·rw [h]; exact ⟨⟨p,List.mem_cons_self⟩,.inl List.mem_cons_self⟩
   ·obtain ⟨⟨q,h1⟩,h2⟩ := ih h
    exact ⟨⟨q,List.mem_cons_of_mem _ h1⟩,h2.imp (List.mem_cons_of_mem _) id⟩

theorem Mem.has_set {m : Mem} {k j : Nat} {d : D} (h : Mem.has k m = false) : Mem.has k (m.set j (.pub d)) = false := by
 rw [Mem.has_iff] at h ⊢
 refine ⟨h.1,fun x hx=>?_⟩
 obtain ⟨⟨p,h1⟩,h2⟩ := Mem.set_any hx
 refine ⟨(h.2 (x.1,p) h1).1,?_⟩
 rcases h2 with h2 | h2
 ·exact (h.2 x h2).2
 ·rw [h2]; rfl

theorem has_pubR {m : Mem} {k : Nat} (h : Mem.has k m = false) (x : SV) : Mem.has k (pubR m x) = false := by
 unfold pubR
 split
 ·split
  ·exact Mem.has_set h
  ·exact h
 ·exact h

theorem has_pubsR {k : Nat} : ∀ (l : List SV) {m : Mem},Mem.has k m = false → Mem.has k (pubsR l m) = false
 | [],_,h=>h
 | x :: r,_,h=>has_pubsR r (has_pubR h x)

theorem Mem.has_del {m : Mem} {k j : Nat} (h : Mem.has k m = false) : Mem.has k (m.del j) = false := by
 rw [Mem.has_iff] at h ⊢
 exact ⟨h.1,fun x hx=>h.2 x (Mem.del_mem hx)⟩

theorem Mem.del_ne {m : Mem} {k : Nat} {o : OBlk} (hkeys : m.Pairwise fun x y=>x.1 ≠ y.1) (hmem : (k,o) ∈ m) {j : Nat} {p : OBlk} (hj : (j,p) ∈ m.del k) : j ≠ k := by
 induction m with
 | nil=>cases hj
 | cons y r ih =>
  obtain ⟨q,z⟩ := y
  rw [List.pairwise_cons] at hkeys
  simp only [Mem.del] at hj
  split at hj
  ·rename_i hq; simp at hq; subst hq; exact (hkeys.1 _ hj).symm
  ·rename_i hq
   simp at hq
   rcases List.mem_cons.1 hj with h | h
   ·cases h; exact hq
   ·rcases List.mem_cons.1 hmem with h2 | h2
    ·cases h2; exact absurd rfl hq
    ·exact ih hkeys.2 h2 h

def cellsOfL : List SV → List SV
 | []=>[]
 | x :: r=>(match x.cells? with | some l=>l | none=>[]) ++ cellsOfL r

section
variable (P : Program)
def appZ (m : Mem) (key : Nat) (s x : SV) (t t' : TypeId) : OpR :=
 match P.underlying t,P.underlying t',s,x with
 | some (.slice e),some (.int _),.dat d,.int _ n=>match P.info? e with
  | some i=>match i.zero with
   | some z=>match (ofVal z).cells? with
    | some zs=>match cellDs zs with
     | some zr=>if zr.length = i.size ∧ 0 < zr.length then
       .all [d.hd = none ∧ 0 < n ∧ n * i.bytes ≤ 140737488355328 ∧ n ≤ 9223372036854775807]
        (fun hs=>(.vec key,(key,.arr e (.slc (hs 0).hd zr.length (List.replicate n.toNat zr))) :: m))
      else .bad
     | none=>.bad
    | none=>.bad
   | none=>.bad
  | none=>.bad
 | _,_,_,_=>.bad

def appR (ev : Operand → SV) (m : Mem) (key : Nat) (s x : Operand) (t t' : TypeId) : OpR :=
 if t = t' then
  match P.underlying t with
  | some (.slice e)=>match P.info? e with
   | some i=>match i.zero,dataOf m (ev x) with
    | some z,some d2 =>
     if z.cells.size = i.size then
      match ev s with
      | .nils=>.all [d2.Fits i.size ∧ d2.len * i.bytes ≤ 140737488355328 ∧ d2.len ≤ 9223372036854775807]
        (fun hs=>(.vec key,(key,.arr e (.slc (hs 0).hd i.size d2.rows)) :: m))
      | .vec k=>match m.get k with
       | some (.arr e' d)=>if e' = e then
         .all [d.sz = i.size ∧ d2.Fits i.size ∧ (d.len + d2.len) * i.bytes ≤ 140737488355328 ∧ d.len + d2.len ≤ 9223372036854775807]
          (fun hs=>(.vec key,(key,.arr e (.slc (hs 0).hd i.size (d.rows ++ d2.rows))) :: m.del k))
        else .bad
       | _=>.bad
      | .view k s lo n=>match m.get k with
       | some (.arr e' d)=>if e' = e ∧ s = i.size then
         .all [lo + n = d.len ∧ d.sz = i.size ∧ d2.Fits i.size ∧ 0 < d2.len ∧ (n + d2.len) * i.bytes ≤ 140737488355328 ∧ n + d2.len ≤ 9223372036854775807]
          (fun hs=>(.view key i.size (hs 0).len (n + d2.len),(key,.arr e (.slc (hs 0).hd i.size ((hs 0).rows ++ (d.rows.drop lo ++ d2.rows)))) :: m.del k))
        else .bad
       | _=>.bad
      | .dat d=>.all [d.Tight ∧ d.Fits i.size ∧ d2.Fits i.size ∧ 0 < d2.len ∧ (d.len + d2.len) * i.bytes ≤ 140737488355328 ∧ d.len + d2.len ≤ 9223372036854775807]
        (fun hs=>(.vec key,(key,.arr e (.slc (hs 0).hd i.size (d.rows ++ d2.rows))) :: m))
      | _=>.bad
     else .bad
    | _,_=>.bad
   | none=>.bad
  | _=>.bad
 else appZ P m key (ev s) (ev x) t t'
def storeV (m : Mem) (t : TypeId) (a v : SV) : Option (List Prop × Mem) :=
 match a,v with
 | .velt k s i j,.vec k2=>match dataOf m (.vec k2) with
  | some d=>storeR P (pubR m (.vec k2)) t (.velt k s i j) (.dat d)
  | none=>none
 | a,v=>storeR P m t a v
def cutR (m : Mem) (key : Nat) (t : TypeId) (x : SV) (lo hi mx : Option SV) : Option (List Prop × SV × Mem) :=
 match x,lo,hi,mx with
 | .vec k,none,some (.int _ n),none=>match Nat.beq (k / 500) (key / 500) with
  | true=>match P.underlying t,m.get k with
   | some (.slice e),some (.arr e' d)=>match sizeT P e with
    | some s=>if e' = e then some ([0 ≤ n ∧ n ≤ d.len ∧ d.Fits s],.vec key,(key,.arr e (.slc d.hd d.sz (d.rows.take n.toNat))) :: m.del k) else none
    | none=>none
   | _,_=>none
  | false=>none
 | _,_,_,_=>none
def viewR (m : Mem) (t : TypeId) (x : SV) (lo hi mx : Option SV) : Option (List Prop × SV × Mem) :=
 match x,lo,hi,mx with
 | .vec k,some (.int _ l),none,none=>match P.underlying t,m.get k with
  | some (.slice e),some (.arr _ d)=>match sizeT P e with
   | some s=>some ([0 ≤ l ∧ l ≤ d.len ∧ d.Fits s],.view k s l.toNat (d.len - l.toNat),m)
   | none=>none
  | _,_=>none
 | .view k s lo' n,some (.int _ l),none,none=>match P.underlying t,m.get k with
  | some (.slice e),some (.arr _ d)=>match sizeT P e with
   | some s'=>if s' = s then some ([0 ≤ l ∧ l ≤ n ∧ lo' + n ≤ d.len ∧ d.sz = s ∧ (l < n ∨ d.Past (lo' + l.toNat))],.view k s (lo' + l.toNat) (n - l.toNat),m) else none
   | none=>none
  | _,_=>none
 | _,_,_,_=>none

def sliceR (m : Mem) (key : Nat) (t : TypeId) (x : SV) (lo hi mx : Option SV) : OpR :=
 match cutR P m key t x lo hi mx with
 | some (ps,v,m')=>.val ps v m'
 | none=>match viewR P m t x lo hi mx with
  | some (ps,v,m')=>.val ps v m'
  | none=>match subR P m t x lo hi mx with
   | some (ps,v,m')=>.val ps v m'
   | none=>.bad
def clrR (m : Mem) (t : TypeId) (x : SV) : Option (List Prop × SV × Mem) :=
 match x with
 | .view k s lo n=>match P.underlying t,m.get k with
  | some (.slice e),some (.arr e' d)=>match P.info? e with
   | some i=>match i.zero with
    | some z=>match (ofVal z).cells? with
     | some zs=>match cellDs zs with
      | some zr=>if e' = e then some ([zr.length = s ∧ d.sz = s ∧ lo + n ≤ d.len ∧ d.len ≤ 9223372036854775807],.tup [],m.set k (.arr e (.slc d.hd d.sz (d.rows.take lo ++ (List.replicate n zr ++ d.rows.drop (lo + n)))))) else none
      | none=>none
     | none=>none
    | none=>none
   | none=>none
  | _,_=>none
 | _=>none
def lenV (m : Mem) : SV → OpR
 | .view k s lo n=>match m.get k with
  | some (.arr _ d)=>.val [lo + n ≤ d.len] (.int .i64 n) m
  | _=>.bad
 | .sl _ n=>.val [] (.int .i64 n) m
 | _=>.bad

def callB (ev : Operand → SV) (m : Mem) (key : Nat) (b : Builtin) (args : List Operand) (tys : List TypeId) : OpR :=
 match b,args,tys with
 | .len,[x],[t]=>match P.underlying t,dataOf m (ev x) with
  | some (.slice _),some d=>.val [] (.int .i64 d.len) m
  | some (.slice _),none=>lenV m (ev x)
  | _,_=>.bad
 | .cap,[x],[t]=>match P.underlying t,ev x with
  | some (.slice _),.nils=>.val [] (.int .i64 0) m
  | _,_=>.bad
 | .append,[s,x],[t,t']=>appR P ev m key s x t t'
 | .clear,[x],[t]=>match clrR P m t (ev x) with
  | some (ps,v,m')=>.val ps v m'
  | none=>.bad
 | .max,[x,y],_=>match ev x,ev y with
  | .int k a,.int _ b=>.val [] (.int k (if b > a then b else a)) m
  | _,_=>.bad
 | .min,[x,y],_=>match ev x,ev y with
  | .int k a,.int _ b=>.val [] (.int k (if b < a then b else a)) m
  | _,_=>.bad
 | _,_,_=>.bad
def opSame : Operand → Operand → Bool
 | .tmp a,.tmp b=>a == b
 | .const (.int _ a),.const (.int _ b)=>decide (a = b)
 | _,_=>false
def intsT (e : TypeId) : Bool :=
 match P.underlying e with
 | some (.slice e2)=>match P.underlying e2 with
  | some (.int .i64)=>true
  | _=>false
 | _=>false
def opr (ev : Operand → SV) (m : Mem) (key : Nat) (op : Op) : OpR :=
 match op with
 | .move x=>.val [] (ev x) m
 | .assign x=>.val [] (ev x) m
 | .pick c a b=>match ev c with
  | .lb true=>.val [] (ev a) m
  | .lb false=>.val [] (ev b) m
  | _=>.bad
 | .alloc t=>match P.info? t with
  | some i=>match i.zero with
   | some z=>match (ofVal z).cells? with
    | some cs=>.val [] (.ptr key 0) ((key,.cells t cs) :: m)
    | none=>.bad
   | none=>.bad
  | none=>.bad
 | .box t x=>match (ev x).cells? with
  | some cs=>.val [] (.ptr key 0) ((key,.cells t cs) :: m)
  | none=>.bad
 | .build t ps=>match buildR P t (ps.toList.map fun x=>(x.1,ev x.2)) with
  | some v=>.val [] v m
  | none=>.bad
 | .buildSlice t len ps =>
  match P.underlying t with
  | some (.slice e)=>match P.info? e with
   | some i=>match i.zero,rowsOf (pubsR (cellsOfL (ps.toList.map fun x=>ev x.2)) m) i.size 0 (ps.toList.map fun x=>(x.1,ev x.2)) with
    | some _,some rows=>if len = ps.toList.length ∧ len * i.size ≤ 16777216 ∧ len ≤ 16777216 then
      .all [] (fun hs=>(.vec key,(key,.arr e (.slc (hs 0).hd i.size rows)) :: pubsR (cellsOfL (ps.toList.map fun x=>ev x.2)) m))
     else .bad
    | some _,none=>match slCells i.size 0 (ps.toList.map fun x=>(x.1,ev x.2)) with
     | some cs=>if len = ps.toList.length ∧ len * i.size ≤ 16777216 ∧ len ≤ 16777216 ∧ len * i.size ≠ 0 then .val [] (.sl key len) ((key,.cells e cs) :: m) else .bad
     | none=>.bad
    | _,_=>.bad
   | none=>.bad
  | _=>.bad
 | .load t a=>match loadR P m t (ev a) with
  | some (ps,v)=>.val ps v m
  | none=>.bad
 | .store t a x=>match storeV P m t (ev a) (ev x) with
  | some (ps,m')=>.val ps .undef m'
  | none=>.bad
 | .nilCheck x=>match ev x with
  | .ptr k o=>.val [] (.ptr k o) m
  | .elt d i j=>.val [] (.elt d i j) m
  | .velt k s i j=>.val [] (.velt k s i j) m
  | .fn f a c=>.val [] (.fn f a c) m
  | _=>.bad
 | .binOp op t x y _=>match binR P m op t (ev x) (ev y) with
  | some (ps,v)=>.val ps v m
  | none=>.bad
 | .unOp op _ x=>match unR op (ev x) with
  | some v=>.val [] v m
  | none=>.bad
 | .convert src dst x=>match P.underlying src,P.underlying dst,ev x with
  | some _,some (.int k),.int _ n=>.val [] (.int k (k.wrap n)) m
  | some (.slice e),some .string,y=>match P.underlying e,dataOf m y with
   | some (.int .u8),some d=>.val [d.IsBytes] (.str d.bytesOf) m
   | _,_=>.bad
  | _,_,_=>.bad
 | .makeMap _ none=>.val [] (.mapp key) ((key,.map []) :: m)
 | .makeSlice t l c=>match P.underlying t with
  | some (.slice e)=>match P.info? e with
   | some i=>match i.zero,ev l,ev c with
    | some z,.int _ n,.int _ n'=>match (ofVal z).cells? with
     | some zs=>match cellDs zs with
      | some zr=>if zr.length = i.size ∧ 0 < zr.length then
        match opSame l c with
        | true=>match intsT P e with
         | true=>match zs with
          | [.nils]=>if 1 ≤ n ∧ n ≤ 64 ∧ (i.bytes : Int) * n ≤ 281474976710656 then .val [n' = n] (.sl key n.toNat) ((key,.cells e (List.replicate n.toNat .nils)) :: m) else .bad
          | _=>.bad
         | false=>.all [0 ≤ n ∧ n' = n ∧ (i.bytes : Int) * n ≤ 281474976710656 ∧ n ≤ 9223372036854775807]
          (fun hs=>(.vec key,(key,.arr e (.slc (hs 0).hd zr.length (List.replicate n.toNat zr))) :: m))
        | false=>.all [0 ≤ n ∧ n ≤ n' ∧ (i.bytes : Int) * n' ≤ 281474976710656 ∧ n' ≤ 9223372036854775807]
          (fun hs=>(.vec key,(key,.arr e (.slc (hs 0).hd zr.length (List.replicate n.toNat zr))) :: m))
       else .bad
      | none=>.bad
     | none=>.bad
    | _,_,_=>.bad
   | none=>.bad
  | _=>.bad
 | .insert t x i v=>match insR P m t (ev x) (ev i) (ev v) with
  | some m'=>.val [] .undef m'
  | none=>.bad
 | .mapUpdate t x i v=>match insR P m t (ev x) (ev i) (ev v) with
  | some m'=>.val [] .undef m'
  | none=>.bad
 | .lookup t x i ok=>match lookR P m t (ev x) (ev i) ok with
  | some (l,d)=>.val [] (pickA d l) m
  | none=>.bad
 | .extract x i=>match ev x with
  | .tup l=>match l[i]? with
   | some v=>.val [] v m
   | none=>.bad
  | _=>.bad
 | .fieldAddr s x f=>match fieldR P s (ev x) f with
  | some v=>.val [] v m
  | none=>.bad
 | .indexAddr t x i=>match indexR P m t (ev x) (ev i) with
  | some (ps,v)=>.val ps v m
  | none=>.bad
 | .slice t x lo hi mx=>sliceR P m key t (ev x) (lo.map ev) (hi.map ev) (mx.map ev)
 | .makeFunc fn first captured=>match fn with
  | .func f=>.val [] (.fn f (first.toList.map ev) (captured.toList.map ev)) m
  | _=>.bad
 | .call c=>match c.callee with
  | .builtin b=>callB P ev m key b c.args.toList c.argTypes.toList
  | _=>.bad
 | _=>.bad
end

theorem array_map_list {α β : Type} (f : α → β) (a : Array α) : a.map f = (a.toList.map f).toArray := by
 rw [← Array.toList_map,Array.toArray_toList]
def OpR.Right (r : OpR) (C : Ctx) (m : Mem) (w : World) (key : Nat) (E : Env) (H : HV) (run : Value → World → Prop) : Prop :=
 match r with
 | .val ps v m'=>(∀ p,p ∈ ps → p) → ∃ w' E' H',run (v.den E') w' ∧ Agree key E E' ∧ HLe H H' ∧ Good C m' E' H' w' ∧ v.Ok H' ∧ Keeps m E H w key m' E' H' w'
 | .all ps f=>(∀ p,p ∈ ps → p) → ∃ hs w' E' H',run ((f hs).1.den E') w' ∧ Agree key E E' ∧ HLe H H' ∧ Good C (f hs).2 E' H' w' ∧ (f hs).1.Ok H' ∧ Keeps m E H w key (f hs).2 E' H' w'
 | .bad=>True
def RunsTo (P : Program) (a : Act) (o : Oper) (w : World) (v : Value) (w' : World) : Prop :=
 (execOp a.eval o).run P w = .ok (.value v) w' ∨ ((execOp a.eval o).run P w = .ok .skip w' ∧ v = Go.undef)

section
variable {P : Program} {C : Ctx} {m : Mem} {E : Env} {H : HV} {w : World} {a : Act} {o : Oper} {key : Nat} {ev : Operand → SV}

theorem right_val {v : SV} {ps : List Prop} {run : Value → World → Prop} (g : Good C m E H w) (h : (∀ p,p ∈ ps → p) → run (v.den E) w ∧ v.Ok H) :
  (OpR.val ps v m).Right C m w key E H run := fun hp=>⟨w,E,H,(h hp).1,Agree.refl _ _,HLe.refl _,g,(h hp).2,Keeps.refl _ _ _ _ _⟩

theorem keeps_alloc {t : TypeId} {cs : List SV} {ob : Obj} (hk : Mem.has key m = false) : Keeps m E H w key ((key,.cells t cs) :: m) (E.set key w.heap.size) H (w.alloc ob) := by
 refine ⟨by simp,fun j hj _=>heap_alloc_old w _ hj,fun _ _ _ h=>.inl h,fun q o hq=>?_,fun q o hq hl=>?_,rfl,rfl,rfl⟩
 ·rcases List.mem_cons.1 hq with hq | hq
  ·cases hq; exact .inl rfl
  ·exact .inr ⟨o,hq⟩
 ·rcases List.mem_cons.1 hq with hq | hq
  ·cases hq; left; simp [Env.set]
  ·right; exact ⟨q,o,hq,hl,((E.agree_set key w.heap.size).1 q (Mem.has_key hk _ hq).1).1⟩

theorem run_bool (b : Bool) : (asBool (.bool b)).run P w = .ok b w := rfl

theorem wrap64J {n : Int} (h1 : -9223372036854775808 ≤ n) (h2 : n ≤ 9223372036854775807) : IntKind.i64.wrap n = n := by
 unfold IntKind.wrap
 simp only [IntKind.bits,IntKind.signed]
 by_cases h : n % 2 ^ 64 ≥ 2 ^ (64 - 1)
 ·simp [h]; omega
 ·simp [h]; omega

theorem zeroCells_made (z : Array Value) (c : Nat) : Builtin.zeroCells z c = madeCells z (c * z.size) := rfl

theorem zeroCells_append (z : Array Value) (a b : Nat) : Builtin.zeroCells z a ++ Builtin.zeroCells z b = Builtin.zeroCells z (a + b) := by
 apply Array.ext
 ·simp [Builtin.zeroCells,Nat.add_mul]
 ·intro i h1 h2
  simp only [Builtin.zeroCells,Array.size_append,Array.size_map,Array.size_range] at h1
  by_cases hi : i < a * z.size
  ·rw [Array.getElem_append_left (by simpa [Builtin.zeroCells] using hi)]
   simp [Builtin.zeroCells]
  ·rw [Array.getElem_append_right (by simpa [Builtin.zeroCells] using hi)]
   simp only [Builtin.zeroCells,Array.getElem_map,Array.getElem_range,Array.size_map,Array.size_range]
   congr 1
   obtain ⟨q,rfl⟩ := Nat.exists_eq_add_of_le (Nat.le_of_not_lt hi)
   rw [show a * z.size + q - a * z.size = q by omega,Nat.mul_add_mod_self_right]

theorem run_append_make (w : World) (t t' ty e : TypeId) (kd k : IntKind) (i : TypeInfo) (z : Value) (ht : P.underlying t = some (.slice e)) (ht' : P.underlying t' = some (.int kd)) (hi : P.info? e = some i) (hz : i.zero = some z)
  (n : Int) (h0 : 0 < n) (hsz : 0 < i.size) (hb : n * i.bytes ≤ 140737488355328) (h63 : n ≤ 9223372036854775807) :
  (Builtin.append_ #[t,t'] ty #[.slice none 0 0,.int k n]).run P w =
   .ok (.slice (some ⟨w.heap.size,0,none⟩) n.toNat (grownCap w n.toNat 0 e)) (w.drew.alloc (.cells (madeCells z.cells (grownCap w n.toNat 0 e * z.cells.size)) e)) := by
 obtain ⟨c,rfl⟩ := Int.eq_ofNat_of_zero_le (Int.le_of_lt h0)
 have hw : IntKind.i64.wrap (c : Int) = c := by
  exact wrap64J (by omega) (by omega)
 have hc : c ≠ 0 := by omega
 have hn : ¬ (c ≤ 0) := by omega
 have h63' : ¬ (9223372036854775807 < (c : Int)) := by omega
 have hbn : c * i.bytes ≤ 140737488355328 := by
  have hcb : ((c * i.bytes : Nat) : Int) = (c : Int) * (i.bytes : Int) := Int.natCast_mul _ _
  omega
 have h48' : ¬ (281474976710656 < Builtin.nextslicecap c 0 * i.bytes) := by
  have := growslice_fits (need := c) (old := 0) (by omega) hbn
  omega
 have h49 : ¬ ((281474976710656 : Int) < (c : Int) * (i.bytes : Int)) := by omega
 have hge := grownCap_ge w c 0 e
 have hs0 : i.size ≠ 0 := by omega
 simp [Builtin.append_,run_underlying ht,run_underlying ht',Go.sizeOf,typeInfo,zeroValue,hi,hz,asInt,asIntOf,hw,Builtin.firstCells,hc,hn,h63',h48',h49,Question.forced,newRow,grownCap,hs0]
 have hneg : ¬ ((c : Int) < 0) := by omega
 have hmul : ¬ (c * i.size = 0) := by
  intro h
  rcases Nat.mul_eq_zero.1 h with h | h <;> omega
 rw [if_neg hneg,if_neg hmul]
 simp only [grownCap] at hge
 rw [zeroCells_append,zeroCells_made,Nat.add_sub_cancel' hge]

theorem appZ_spec (g : Good C m E H w) (hok : ∀ x,(ev x).Ok H) (hk : Mem.has key m = false) (s x : Operand) (t t' ty : TypeId) :
  (appZ P m key (ev s) (ev x) t t').Right C m w key E H (fun v w'=>(Builtin.append_ #[t,t'] ty #[(ev s).den E,(ev x).den E]).run P w = .ok v w') := by
 unfold appZ
 split
 ·rename_i e kd d k n ht ht' hs hx
  split
  ·rename_i i hi
   split
   ·rename_i z hz
    split
    ·rename_i zs hzs
     split
     ·rename_i zr hzr
      split
      ·rename_i hcond
       obtain ⟨hsz,h0⟩ := hcond
       obtain ⟨x1,x2,x3⟩ := cellDs_spec (H := H) hzr (SV.cells?_ok hzs (ok_ofVal H z))
       have hcl := SV.cells?_den E hzs
       rw [den_ofVal,x1 E] at hcl
       have hzl : zr.map D.val = z.cells.toList := by rw [hcl]
       intro hp
       obtain ⟨p1,p2,p3,p4⟩ := hp _ (List.mem_singleton.2 rfl)
       have hrun := run_append_make (P := P) w t t' ty e kd k i z ht ht' hi hz n p2 (by omega) p3 p4
       have hzz : z.cells.size = zr.length := by rw [← Array.length_toList,← hzl,List.length_map]
       rw [hzz] at hrun
       have hge := grownCap_ge w n.toNat 0 e
       have hmax := grownCap_le_maxLen w n.toNat 0 e (by simp only [maxLen]; omega)
       have hd := hok s
       rw [hs] at hd
       obtain ⟨hdo,hh,sz,rows,rfl⟩ := hd
       simp only [D.hd] at p1
       subst p1
       refine ⟨fun _=>.slc (some (⟨w.heap.size,0,none⟩,grownCap w n.toNat 0 e)) 0 [],_,_,H,?_,E.agree_setV _ _ _,HLe.refl _,(g.drew).makeArr2 hk hzl h0 x2 n.toNat _ hge hmax,by simp [SV.Ok],by
        obtain ⟨y1,y2,y3,y4,y5,y6⟩ := keeps_makeArr (m := m) (E := E) (H := H) (w := w.drew) (o := .arr e (.slc (some (⟨w.heap.size,0,none⟩,grownCap w n.toNat 0 e)) zr.length (List.replicate n.toNat zr))) (ob := .cells (madeCells z.cells (grownCap w n.toNat 0 e * zr.length)) e) (v := (some (⟨w.heap.size,0,none⟩,grownCap w n.toNat 0 e),n.toNat)) hk
        exact ⟨y1,y2,y3,y4,y5,y6⟩⟩
       rw [hs,hx]
       simp only [SV.den,D.val,hval]
       rw [hrun]
       simp [Env.setV,hval]
      ·trivial
     ·trivial
    ·trivial
   ·trivial
  ·trivial
 ·trivial

theorem flat_dropA {rows : List (List D)} {sz : Nat} (h : ∀ r,r ∈ rows → r.length = sz) {lo : Nat} (hlo : lo ≤ rows.length) (j : Nat) : (flat (rows.drop lo))[j]? = (flat rows)[lo * sz + j]? := by
 conv=>rhs; rw [← List.take_append_drop lo rows,flat_append]
 have hl : (flat (rows.take lo)).length = lo * sz := by
  rw [flat_len (sz := sz) fun r hr=>h r (List.mem_of_mem_take hr),List.length_take,Nat.min_eq_left hlo]
 rw [List.getElem?_append_right (by omega)]
 congr 1; omega
theorem Good.appendRoom (g : Good C m E H w) {gg cap : Nat} {cur : Array Value} (t ty e : TypeId) (i : TypeInfo) (ht : P.underlying t = some (.slice e)) (hi : P.info? e = some i)
  (hgg : w.heap[gg]? = some (.cells cur e (0,0))) (hlow : C.w0.heap.size ≤ gg) (old : List (List D)) (hcm : cap ≤ maxLen) (hcs : cur.size = cap * i.size) (htake : cur.toList.take (old.length * i.size) = flat old)
  (hol : ∀ r,r ∈ old → r.length = i.size) (hoo : ∀ r,r ∈ old → ∀ x,x ∈ r → D.Ok H x) (hoH : (∀ o,H gg o = none) ∧ ∀ j p,(j,p) ∈ m → p.Lies → E.b j ≠ gg)
  (a : Addr) (c : Nat) (news : List (List D)) (hnews : ∀ j u,(flat news)[j]? = some u → w.cell? (a.add j) = some u) (hnl' : ∀ r,r ∈ news → r.length = i.size) (hro : ∀ r,r ∈ news → ∀ x,x ∈ r → D.Ok H x) (hroom : old.length + news.length ≤ cap)
  (k : Nat) (hk : Mem.has k m = false) :
  ∃ w',(Builtin.append_ #[t,t] ty #[.slice (some ⟨gg,0,none⟩) old.length cap,.slice (some a) news.length c]).run P w = .ok (.slice (some ⟨gg,0,none⟩) (old.length + news.length) cap) w' ∧
   Good C ((k,.arr e (.slc (some (⟨gg,0,none⟩,cap)) i.size (old ++ news))) :: m) (E.setV k gg (some (⟨gg,0,none⟩,cap),old.length + news.length)) H w' ∧
   w.heap.size ≤ w'.heap.size ∧ (∀ j,j < w.heap.size → gg ≠ j → w'.heap[j]? = w.heap[j]?) ∧ (w'.os = w.os ∧ w'.tape = w.tape ∧ w'.output = w.output) := by
 have hnl : (flat news).length = news.length * i.size := flat_len hnl'
 have hall : ∀ r,r ∈ old ++ news → r.length = i.size := fun r hr=>by
  rcases List.mem_append.1 hr with h | h
  ·exact hol r h
  ·exact hnl' r h
 have hallo : ∀ r,r ∈ old ++ news → ∀ x,x ∈ r → D.Ok H x := fun r hr=>by
  rcases List.mem_append.1 hr with h | h
  ·exact hoo r h
  ·exact hro r h
 have hlen : (flat (old ++ news)).length = (old.length + news.length) * i.size := by rw [flat_len hall]; simp
 have hfit : old.length * i.size + (flat news).length ≤ cur.size := by rw [hnl,hcs,← Nat.add_mul]; exact Nat.mul_le_mul_right _ hroom
 have hrun := run_append_room (P := P) w t ty e i ht hi gg old.length cap cur hgg a news.length c (flat news) hnl hnews (flat_one news) hroom hfit
 refine ⟨_,hrun,?_,by simp [World.setRow],fun j hj hne=>setRow_other w gg j _ (Ne.symm hne),rfl,rfl,rfl⟩
 have g1 : Good C m E H (w.setRow gg (cur.toList.take (old.length * i.size) ++ flat news ++ cur.toList.drop (old.length * i.size + (flat news).length)).toArray) :=
  g.other (r := gg) (fun j hj=>setRow_other w gg j _ hj) rfl rfl rfl (by simp [World.setRow]) hlow (fun q hq=>by rw [hgg] at hq; cases hq; rfl) hoH.1 hoH.2
 refine Good.cons g1 hk (E.agree_setV _ _ _) (Below.refl _ _) ⟨_,_,_,rfl,by simp [Env.setV],⟨by simpa using hlen,.inr ⟨gg,cap,_,by simp [D.val,hval],hlow,setRow_heap w gg cur _ e _ hgg,by simpa using hroom,hcm,?_,?_⟩⟩,hall,hallo,?_⟩ ?_
 ·simp only [List.size_toArray,List.length_append,List.length_take,List.length_drop,Array.length_toList]
  omega
 ·simp only [htake,List.length_append]
  rw [← hlen,flat_append,List.take_left]
 ·intro a c hc
  cases hc
  simp only [Env.setV,if_true]
  exact ⟨trivial,hoH.1⟩
 ·intro _ j p hj hl
  simp only [Env.setV,if_true]
  exact (hoH.2 j p hj hl).symm
theorem appV_spec (g : Good C m E H w) (hk : Mem.has key m = false) {k lo n : Nat} (t ty e : TypeId) (i : TypeInfo) (z : Value)
  (ht : P.underlying t = some (.slice e)) (hi : P.info? e = some i) (hz : i.zero = some z) (hzs : z.cells.size = i.size) {hd : Hd} {rows : List (List D)} (hg : m.get k = some (.arr e (.slc hd i.size rows))) (hln : lo + n = rows.length)
  (x : Value) (news : List (List D)) (hx : Reads w x i.size news) (hro : ∀ r,r ∈ news → ∀ x,x ∈ r → D.Ok H x) (hpos : 0 < news.length)
  (hb : (n + news.length) * i.bytes ≤ 140737488355328) (hm : n + news.length ≤ maxLen) :
  ∃ (h : Hd) (pre : List (List D)) (w' : World) (E' : Env),(Builtin.append_ #[t,t] ty #[(SV.view k i.size lo n).den E,x]).run P w = .ok ((SV.view key i.size pre.length (n + news.length)).den E') w' ∧ Agree key E E' ∧
   Good C ((key,.arr e (.slc h i.size (pre ++ (rows.drop lo ++ news)))) :: m.del k) E' H w' ∧ Keeps m E H w key ((key,.arr e (.slc h i.size (pre ++ (rows.drop lo ++ news)))) :: m.del k) E' H w' := by
 have hmem := Mem.get_mem hg
 obtain ⟨hv,f1,f2⟩ := arr_facts g hg
 obtain ⟨hd',sz',rows',heq,_,how,hl,hk2,ha⟩ := g.own k _ hmem
 cases heq
 have hdel := fun j p=>Mem.del_ne (j := j) (p := p) g.keys hmem
 have g0 := g.sub (m.del_sub k)
 have hkd := Mem.has_del (j := k) hk
 rcases hx.2 with ⟨_,h0⟩ | ⟨ax,cx,hxe,hcells⟩
 ·rw [h0] at hpos; simp at hpos
 have hnl : (flat news).length = news.length * i.size := flat_len hx.1
 -- a new block
 have fresh : ∀ (w' : World) (h : Hd) (b : Nat) (old : List (List D)),old = rows.drop lo → h ≠ none → (Builtin.append_ #[t,t] ty #[(SV.view k i.size lo n).den E,x]).run P w = .ok (hval h (n + news.length)) w' →
   Good C ((key,.arr e (.slc h i.size (old ++ news))) :: m.del k) (E.setV key b (h,old.length + news.length)) H w' →
   w.heap.size ≤ w'.heap.size → (∀ j,j < w.heap.size → w'.heap[j]? = w.heap[j]?) → (h ≠ none → w.heap.size ≤ b) → (w'.os = w.os ∧ w'.tape = w.tape ∧ w'.output = w.output) →
   ∃ (h : Hd) (pre : List (List D)) (w' : World) (E' : Env),(Builtin.append_ #[t,t] ty #[(SV.view k i.size lo n).den E,x]).run P w = .ok ((SV.view key i.size pre.length (n + news.length)).den E') w' ∧ Agree key E E' ∧
    Good C ((key,.arr e (.slc h i.size (pre ++ (rows.drop lo ++ news)))) :: m.del k) E' H w' ∧ Keeps m E H w key ((key,.arr e (.slc h i.size (pre ++ (rows.drop lo ++ news)))) :: m.del k) E' H w' := by
  intro w' h b old hold hne hrun hgd k1 k2 k3 k4
  subst hold
  refine ⟨h,[],w',_,?_,E.agree_setV key b _,by simpa using hgd,k1,fun j hj _=>k2 j hj,fun _ _ _ hh=>.inl hh,fun q o hq=>?_,fun q o hq hl=>?_,k4⟩
  ·rw [hrun]
   congr 1
   simp only [SV.den,Env.setV,if_true,List.length_nil]
   cases h with
   | none=>exact absurd rfl hne
   | some ac =>
    obtain ⟨a,c⟩ := ac
    simp only [viewHd,Option.map_some,Nat.zero_mul,Nat.sub_zero,show a.add 0 = a from by simp [Addr.add],ite_self]
  ·rcases List.mem_cons.1 hq with hq | hq
   ·cases hq; exact .inl rfl
   ·exact .inr ⟨o,Mem.del_mem hq⟩
  ·rcases List.mem_cons.1 hq with hq | hq
   ·cases hq
    left; simpa [Env.setV] using k3 hne
   ·right
    exact ⟨q,o,Mem.del_mem hq,hl,((E.agree_setV key b (h,(rows.drop lo).length + news.length)).1 q (Mem.has_key hk _ (Mem.del_mem hq)).1).1⟩
 have hdl : (rows.drop lo).length = n := by rw [List.length_drop]; omega
 cases hd with
 | none =>
  have hr0 := f1 rfl
  subst hr0
  have hn0 : n = 0 := by simp at hln; omega
  have hl0 : lo = 0 := by simp at hln; omega
  subst hn0; subst hl0
  obtain ⟨w',h,b,hrun,hgd,k1,k2,k3,k4⟩ := g0.append (P := P) t ty e i z ht hi hz hzs (.slice none 0 0) [] (World.ownsRow_nil w _ e i.size) (by simp) (by simp) (by simp [Value.ownBlock])
   x news hx hro (by simpa using hb) (by simpa using hm) key hkd
  have hne : h ≠ none := by
   intro hh
   subst hh
   obtain ⟨h',sz',rows',heq,_,how',_⟩ := hgd.own key _ List.mem_cons_self
   cases heq
   rcases how'.2 with ⟨_,h0⟩ | ⟨g',cap,cur,h3,_⟩
   ·simp only [List.length_append] at h0; omega
   ·simp [D.val,hval] at h3
  refine fresh w' h b [] rfl hne ?_ hgd k1 (fun j hj=>k2 j hj (by simp [Value.ownBlock])) (fun hn=>?_) k4
  ·have : (SV.view k i.size 0 0).den E = .slice none 0 0 := by simp only [SV.den,hv,viewHd,Option.map_none,hval]
   rw [this]
   simpa using hrun
  ·rcases k3 hn with h4 | h4
   ·exact h4
   ·simp [Value.ownBlock] at h4
 | some ac =>
  obtain ⟨a,c⟩ := ac
  obtain ⟨rfl,hcap⟩ := f2 a c rfl
  obtain ⟨gg,cap,cur,hvv,hlow,hgg,hnc,hcm,hcs,htake⟩ : ∃ g cap cur,(D.slc (some ((⟨E.b k,0,none⟩ : Addr),c)) i.size rows).val = .slice (some ⟨g,0,none⟩) rows.length cap ∧ C.w0.heap.size ≤ g ∧ w.heap[g]? = some (.cells cur e (0,0)) ∧ rows.length ≤ cap ∧ cap ≤ maxLen ∧ cur.size = cap * i.size ∧ cur.toList.take (rows.length * i.size) = flat rows := by
   rcases how.2 with ⟨h3,_⟩ | h3
   ·simp [D.val,hval] at h3
   ·exact h3
  simp only [D.val,hval,Value.slice.injEq,Option.some.injEq,Addr.mk.injEq,true_and,and_true] at hvv
  obtain ⟨rfl,rfl⟩ := hvv
  by_cases hroom : rows.length + news.length ≤ c
  ·-- in place
   obtain ⟨w',hrun,hgd,k1,k2,k4⟩ := g0.appendRoom (P := P) t ty e i ht hi hgg hlow rows hcm hcs htake hl hk2
    ⟨(ha _ c rfl).2,fun j p hj hlies=>g.apart (j,p) (k,_) (Mem.del_mem hj) hmem (hdel j p hj) hlies (by simp [OBlk.Lies,D.hd])⟩
    ax cx news hcells hx.1 hro hroom key hkd
   have hc1 : ∀ j,j < (flat news).length → (w.cell? ⟨E.b k,rows.length * i.size + j,none⟩).isSome = true := fun j hj=>by
    have hle : (rows.length + news.length) * i.size ≤ c * i.size := Nat.mul_le_mul_right _ hroom
    rw [Nat.add_mul] at hle
    have : rows.length * i.size + j < cur.size := by rw [hcs]; omega
    simp [World.cell?,hgg,this]
   have hf1 : ∀ j,j < (flat news).length → w.frozen? ⟨E.b k,rows.length * i.size + j,none⟩ = false := fun j hj=>by simp [World.frozen?,hgg]
   have r1 := run_append_room_cells (P := P) (w := w) t ty e i ht hi (E.b k) 0 rows.length c ax news.length cx (flat news) hnl hcells (flat_one news) hroom (by simpa using hc1) (by simpa using hf1)
   have r2 := run_append_room_cells (P := P) (w := w) t ty e i ht hi (E.b k) (lo * i.size) n (c - lo) ax news.length cx (flat news) hnl hcells (flat_one news) (by omega)
    (by rw [← Nat.add_mul,hln]; exact hc1) (by rw [← Nat.add_mul,hln]; exact hf1)
   rw [← Nat.add_mul,hln] at r2
   rw [r1] at hrun
   simp only [Result.ok.injEq,true_and] at hrun
   rw [Nat.zero_add] at hrun
   rw [hrun] at r2
   have hne : ¬ c = lo := by omega
   refine ⟨some ((⟨E.b k,0,none⟩ : Addr),c),rows.take lo,w',E.setV key (E.b k) (some ((⟨E.b k,0,none⟩ : Addr),c),rows.length + news.length),?_,E.agree_setV key (E.b k) _,?_,?_⟩
   ·have el : (rows.take lo).length = lo := by rw [List.length_take]; omega
    have ev : (SV.view k i.size lo n).den E = .slice (some ⟨E.b k,lo * i.size,none⟩) n (c - lo) := by
     simp only [SV.den,hv,viewHd,Option.map_some,if_neg hne,hval]
     simp [add_none]
    rw [ev,hxe,r2,el]
    simp only [SV.den,Env.setV,if_true,viewHd,Option.map_some,if_neg hne,hval]
    simp [add_none]
   ·rw [← List.append_assoc,List.take_append_drop]; exact hgd
   ·rw [← List.append_assoc,List.take_append_drop]
    refine ⟨k1,fun j hj hno=>k2 j hj (hno k _ hmem (by simp [OBlk.Lies,D.hd])),fun _ _ _ hh=>.inl hh,fun q o hq=>?_,fun q o hq hl=>?_,k4⟩
    ·rcases List.mem_cons.1 hq with hq | hq
     ·cases hq; exact .inl rfl
     ·exact .inr ⟨o,Mem.del_mem hq⟩
    ·rcases List.mem_cons.1 hq with hq | hq
     ·cases hq
      right
      exact ⟨k,_,hmem,by simp [OBlk.Lies,D.hd],by simp [Env.setV]⟩
     ·right
      exact ⟨q,o,Mem.del_mem hq,hl,((E.agree_setV key (E.b k) (some ((⟨E.b k,0,none⟩ : Addr),c),rows.length + news.length)).1 q (Mem.has_key hk _ (Mem.del_mem hq)).1).1⟩
  ·-- it grows
   have hcc : ∀ j u,(flat rows)[j]? = some u → w.cell? ((⟨E.b k,0,none⟩ : Addr).add j) = some u := how.cells (g := E.b k) rfl
   have hol : ∀ r,r ∈ rows.drop lo → r.length = i.size := fun r hr=>hl r (List.mem_of_mem_drop hr)
   have holds : ∀ j u,(flat (rows.drop lo))[j]? = some u → w.cell? ((if c = lo then (⟨E.b k,0,none⟩ : Addr) else (⟨E.b k,0,none⟩ : Addr).add (lo * i.size)).add j) = some u := fun j u hj=>by
    split
    ·rename_i hcl
     have : rows.drop lo = [] := List.drop_eq_nil_of_le (by omega)
     rw [this] at hj; simp [flat] at hj
    ·rw [flat_dropA hl (by omega)] at hj
     have := hcc _ u hj
     simpa [add_none] using this
   obtain ⟨w',h,b,hrun,hgd,k1,k2,k3,k4⟩ := g0.appendT (P := P) t ty e i z ht hi hz hzs _ (rows.drop lo) holds hol (fun r hr=>hk2 r (List.mem_of_mem_drop hr))
    x news hx hro (c - lo) hpos (by rw [hdl]; omega) (by rw [hdl]; exact hb) (by rw [hdl]; exact hm) key hkd
   have hne : h ≠ none := by
    intro hh
    subst hh
    obtain ⟨h',sz',rows',heq,_,how',_⟩ := hgd.own key _ List.mem_cons_self
    cases heq
    rcases how'.2 with ⟨_,h0⟩ | ⟨g',cap,cur,h3,_⟩
    ·simp only [List.length_append] at h0; omega
    ·simp [D.val,hval] at h3
   refine fresh w' h b _ rfl hne ?_ hgd k1 k2 k3 k4
   rw [hdl] at hrun
   have ev : (SV.view k i.size lo n).den E = .slice (some (if c = lo then (⟨E.b k,0,none⟩ : Addr) else (⟨E.b k,0,none⟩ : Addr).add (lo * i.size))) n (c - lo) := by
    simp only [SV.den,hv,viewHd,Option.map_some,hval]
   rw [ev]; exact hrun
theorem appR_spec (g : Good C m E H w) (hok : ∀ x,(ev x).Ok H) (hk : Mem.has key m = false) (s x : Operand) (t t' ty : TypeId) :
  (appR P ev m key s x t t').Right C m w key E H (fun v w'=>(Builtin.append_ #[t,t'] ty #[(ev s).den E,(ev x).den E]).run P w = .ok v w') := by
 unfold appR
 split
 ·rename_i htt
  subst htt
  split
  ·rename_i e ht
   split
   ·rename_i i hi
    split
    ·rename_i z d2 hz hd2
     split
     ·rename_i hzs
      obtain ⟨hv2,hr2,hro2,_⟩ := dataOf_spec g (hok x) hd2
      have hfit : d2.Fits i.size → Reads w ((ev x).den E) i.size d2.rows := by
       intro hf
       rcases hf with h0 | h0
       ·rw [h0] at hr2 ⊢; exact ⟨by simp,hr2.2⟩
       ·rw [← h0]; exact hr2
      split
      ·rename_i hs
       intro hp
       obtain ⟨h1,h2,h3⟩ := hp _ (List.mem_singleton.2 rfl)
       obtain ⟨w',h,b,hrun,hg,k1,k2,k3,k4⟩ := g.append (P := P) t ty e i z ht hi hz hzs (.slice none 0 0) [] (World.ownsRow_nil w _ e i.size) (by simp) (by simp) (by simp [Value.ownBlock])
        ((ev x).den E) d2.rows (hfit h1) hro2 (by simpa [D.len] using h2) (by simpa [D.len,maxLen] using h3) key hk
       refine ⟨fun _=>.slc h 0 [],w',_,H,?_,E.agree_setV _ _ _,HLe.refl _,by simpa [D.hd] using hg,by simp [SV.Ok],k1,fun j hj _=>k2 j hj (by simp [Value.ownBlock]),fun _ _ _ hh=>.inl hh,fun q o hq=>?_,fun q o hq hl=>?_,k4⟩
       ·rw [hs]
        simpa [SV.den,Env.setV] using hrun
       ·rcases List.mem_cons.1 hq with hq | hq
        ·cases hq; exact .inl rfl
        ·exact .inr ⟨o,hq⟩
       ·rcases List.mem_cons.1 hq with hq | hq
        ·cases hq
         rcases k3 (by simpa [OBlk.Lies,D.hd] using hl) with h4 | h4
         ·left; simpa [Env.setV] using h4
         ·simp [Value.ownBlock] at h4
        ·right
         exact ⟨q,o,hq,hl,((E.agree_setV key b (h,([] : List (List D)).length + d2.rows.length)).1 q (Mem.has_key hk _ hq).1).1⟩
      ·rename_i k hs
       split
       ·rename_i e' d hkk
        split
        ·rename_i hee
         subst hee
         intro hp
         obtain ⟨h0,h1,h2,h3⟩ := hp _ (List.mem_singleton.2 rfl)
         obtain ⟨hd,sz,rows,rfl,hv,how,hl,hk2,ha⟩ := g.own k _ (Mem.get_mem hkk)
         simp only [D.sz] at h0
         subst h0
         have hmem := Mem.get_mem hkk
         have hval' : (SV.vec k).den E = (D.slc hd i.size rows).val := by simp only [SV.den,hv]; rfl
         have hdel := fun j p=>Mem.del_ne (j := j) (p := p) g.keys hmem
         obtain ⟨w',h,b,hrun,hg,k1,k2,k3,k4⟩ := (g.sub (m.del_sub k)).append (P := P) t ty e' i z ht hi hz hzs _ rows how hl hk2
          (by
           intro b hb
           cases hd with
           | none=>simp [D.val,hval,Value.ownBlock] at hb
           | some q =>
            obtain ⟨ad,c⟩ := q
            obtain ⟨rfl,hH⟩ := ha ad c rfl
            simp only [D.val,hval,Value.ownBlock,Option.some.injEq] at hb
            subst hb
            exact ⟨hH,fun j p hj hlies=>g.apart (j,p) (k,_) (Mem.del_mem hj) hmem (hdel j p hj) hlies (by simp [OBlk.Lies,D.hd])⟩)
          ((ev x).den E) d2.rows (hfit h1) hro2 (by simpa [D.len,D.rows] using h2) (by simpa [D.len,D.rows,maxLen] using h3) key (Mem.has_del hk)
         have hob : ∀ q,(D.slc hd i.size rows).val.ownBlock = some q → hd ≠ none ∧ E.b k = q := by
          intro q hq
          cases hd with
          | none=>simp [D.val,hval,Value.ownBlock] at hq
          | some y =>
           obtain ⟨ad,c⟩ := y
           obtain ⟨rfl,_⟩ := ha ad c rfl
           simp only [D.val,hval,Value.ownBlock,Option.some.injEq] at hq
           exact ⟨by simp,hq⟩
         refine ⟨fun _=>.slc h 0 [],w',_,H,?_,E.agree_setV _ _ _,HLe.refl _,by simpa [D.rows,D.hd] using hg,by simp [SV.Ok],k1,fun j hj hno=>k2 j hj (fun hb=>?_),fun _ _ _ hh=>.inl hh,fun q o hq=>?_,fun q o hq hl=>?_,k4⟩
         ·rw [hs,hval']
          simpa [SV.den,Env.setV,D.rows] using hrun
         ·exact hno k _ hmem (by simpa [OBlk.Lies,D.hd] using (hob j hb).1) (hob j hb).2
         ·rcases List.mem_cons.1 hq with hq | hq
          ·cases hq; exact .inl rfl
          ·exact .inr ⟨o,Mem.del_mem hq⟩
         ·rcases List.mem_cons.1 hq with hq | hq
          ·cases hq
           rcases k3 (by simpa [OBlk.Lies,D.hd] using hl) with h4 | h4
           ·left; simpa [Env.setV] using h4
           ·right
            exact ⟨k,_,hmem,by simpa [OBlk.Lies,D.hd] using (hob b h4).1,by simp [Env.setV,(hob b h4).2]⟩
          ·right
           exact ⟨q,o,Mem.del_mem hq,hl,((E.agree_setV key b (h,rows.length + d2.rows.length)).1 q (Mem.has_key hk _ (Mem.del_mem hq)).1).1⟩
        ·trivial
       ·trivial
      ·rename_i k s' lo n hs
       split
       ·rename_i e' d hkk
        split
        ·rename_i hee
         obtain ⟨rfl,rfl⟩ := hee
         intro hp
         obtain ⟨h0,h1,h2,h3,h4,h5⟩ := hp _ (List.mem_singleton.2 rfl)
         obtain ⟨hd,sz,rows,rfl,_⟩ := g.own k _ (Mem.get_mem hkk)
         simp only [D.sz] at h1
         subst h1
         obtain ⟨h,pre,w',E',hrun,hag,hgd,hkp⟩ := appV_spec (P := P) g hk t ty e' i z ht hi hz hzs hkk (by simpa [D.len,D.rows] using h0) ((ev x).den E) d2.rows (hfit h2) hro2 (by simpa [D.len] using h3)
          (by simpa [D.len,D.rows] using h4) (by simpa [D.len,D.rows,maxLen] using h5)
         refine ⟨fun _=>.slc h 0 pre,w',E',H,?_,hag,HLe.refl _,by simpa [D.hd,D.rows] using hgd,by simp [SV.Ok],by simpa [D.hd,D.rows] using hkp⟩
         rw [hs,hrun]
         rfl
        ·trivial
       ·trivial
      ·rename_i d hs
       intro hp
       obtain ⟨h0,h0',h1,hpos,h2,h3⟩ := hp _ (List.mem_singleton.2 rfl)
       have hd := hok s
       rw [hs] at hd
       obtain ⟨hdo,hh,sz,rows,rfl⟩ := hd
       have fin : ∀ (w' : World) (h : Hd) (b : Nat),(Builtin.append_ #[t,t] ty #[(SV.dat (D.slc hh sz rows)).den E,(ev x).den E]).run P w = .ok (hval h (rows.length + d2.rows.length)) w' →
         Good C ((key,.arr e (.slc h i.size (rows ++ d2.rows))) :: m) (E.setV key b (h,rows.length + d2.rows.length)) H w' →
         w.heap.size ≤ w'.heap.size → (∀ j,j < w.heap.size → w'.heap[j]? = w.heap[j]?) → (h ≠ none → w.heap.size ≤ b) → (w'.os = w.os ∧ w'.tape = w.tape ∧ w'.output = w.output) →
         ∃ (hs : Nat → D) (w' : World) (E' : Env) (H' : HV),(Builtin.append_ #[t,t] ty #[(ev s).den E,(ev x).den E]).run P w = .ok ((SV.vec key).den E') w' ∧ Agree key E E' ∧ HLe H H' ∧ Good C ((key,.arr e (.slc (hs 0).hd i.size (rows ++ d2.rows))) :: m) E' H' w' ∧ (SV.vec key).Ok H' ∧
          Keeps m E H w key ((key,.arr e (.slc (D.hd (hs 0)) i.size (rows ++ d2.rows))) :: m) E' H' w' := fun w' h b hrun hg k1 k2 k3 k4=>by
        refine ⟨fun _=>.slc h 0 [],w',_,H,?_,E.agree_setV key b (h,rows.length + d2.rows.length),HLe.refl _,by simpa [D.hd] using hg,by simp [SV.Ok],k1,fun j hj _=>k2 j hj,fun _ _ _ hh=>.inl hh,fun q o hq=>?_,fun q o hq hl=>?_,k4⟩
        ·rw [hs,hrun]; simp [SV.den,Env.setV]
        ·rcases List.mem_cons.1 hq with hq | hq
         ·cases hq; exact .inl rfl
         ·exact .inr ⟨o,hq⟩
        ·rcases List.mem_cons.1 hq with hq | hq
         ·cases hq
          left; simpa [Env.setV] using k3 (by simpa [OBlk.Lies,D.hd] using hl)
         ·right
          exact ⟨q,o,hq,hl,((E.agree_setV key b (h,rows.length + d2.rows.length)).1 q (Mem.has_key hk _ hq).1).1⟩
       cases hh with
       | none =>
        have hr0 : rows = [] := by cases hdo; rfl
        subst hr0
        obtain ⟨w',h,b,hrun,hg,k1,k2,k3,k4⟩ := g.append (P := P) t ty e i z ht hi hz hzs (.slice none 0 0) [] (World.ownsRow_nil w _ e i.size) (by simp) (by simp) (by simp [Value.ownBlock])
         ((ev x).den E) d2.rows (hfit h1) hro2 (by simpa [D.len,D.rows] using h2) (by simpa [D.len,D.rows,maxLen] using h3) key hk
        exact fin w' h b (by simpa [SV.den,D.val,hval] using hrun) hg k1 (fun j hj=>k2 j hj (by simp [Value.ownBlock])) (fun hn=>by
         rcases k3 hn with h4 | h4
         ·exact h4
         ·simp [Value.ownBlock] at h4) k4
       | some q =>
        obtain ⟨a,c⟩ := q
        have hc : c = rows.length := h0 a c rfl
        subst hc
        have hrd := reads_data g.cell hdo
        have hok2 : ∀ r,r ∈ rows → ∀ x,x ∈ r → D.Ok H x := by cases hdo; assumption
        have hlen : ∀ r,r ∈ rows → r.length = i.size := fun r hr=>by
         rcases h0' with h5 | h5
         ·simp only [D.rows] at h5; rw [h5] at hr; cases hr
         ·simp only [D.sz] at h5; rw [← h5]; exact hrd.1 r hr
        have hcells : ∀ j u,(flat rows)[j]? = some u → w.cell? (a.add j) = some u := by
         rcases hrd.2 with ⟨h5,_⟩ | ⟨a',c',h5,h6⟩
         ·simp [D.val,hval] at h5
         ·simp only [D.val,hval,Value.slice.injEq,Option.some.injEq] at h5
          rw [h5.1]; exact h6
        obtain ⟨w',h,b,hrun,hg,k1,k2,k3,k4⟩ := g.appendT (P := P) t ty e i z ht hi hz hzs a rows hcells hlen hok2
         ((ev x).den E) d2.rows (hfit h1) hro2 rows.length (by simpa [D.len] using hpos) (by simp only [D.len] at hpos; omega) (by simpa [D.len,D.rows] using h2) (by simpa [D.len,D.rows,maxLen] using h3) key hk
        exact fin w' h b (by simpa [SV.den,D.val,hval] using hrun) hg k1 k2 k3 k4
      ·trivial
     ·trivial
    ·trivial
   ·trivial
  ·trivial
 ·exact appZ_spec g hok hk s x t t' ty

theorem storeV_spec (g : Good C m E H w) {t : TypeId} {a v : SV} (hv : v.Ok H) {ps : List Prop} {m' : Mem}
  (h : storeV P m t a v = some (ps,m')) (hp : ∀ p,p ∈ ps → p) (key : Nat) : ∃ w' H',(Instr.storeAt t (a.den E) (v.den E)).run P w = .ok () w' ∧ HLe H H' ∧ Good C m' E H' w' ∧ Keeps m E H w key m' E H' w' := by
 unfold storeV at h
 split at h
 ·rename_i k s i j k2
  split at h
  ·rename_i d hd
   obtain ⟨H',hle,g',hdok,hnew⟩ := pubR_spec g (.vec k2)
   obtain ⟨hval,_⟩ := dataOf_spec g hv hd
   have hdo := hdok d hd hv
   have hsl : ∃ h s r,d = .slc h s r := by
    simp only [dataOf] at hd
    split at hd
    ·rename_i e q hg
     cases hd
     obtain ⟨q1,q2,q3,e4,_⟩ := g.own k2 _ (Mem.get_mem hg)
     exact ⟨q1,q2,q3,e4⟩
    ·rename_i q hg
     cases hd
     obtain ⟨⟨q1,q2,q3,e4,_⟩,_⟩ := g.own k2 _ (Mem.get_mem hg)
     exact ⟨q1,q2,q3,e4⟩
    ·cases hd
   obtain ⟨w',h1,h2,h3⟩ := storeR_spec g' (v := .dat d) ⟨hdo,hsl⟩ h hp
   have hden : (SV.vec k2).den E = (SV.dat d).den E := by
    obtain ⟨hh,ss,rr,rfl⟩ := hsl
    rw [hval]; rfl
   rw [hden]
   refine ⟨w',H',h1,hle,h2,?_⟩
   obtain ⟨y1,y2,y3,y4,y5,y6⟩ := h3 key
   refine ⟨y1,fun b hb ho=>y2 b hb fun q o hq hl=>ho q o ((pubR_mem q o hq).2 hl) hl,fun b x u hh=>?_,fun q o hq=>?_,fun q o hq hl=>?_,y6⟩
   ·rcases hnew b x u hh with hh | hh
    ·exact .inl hh
    ·exact .inr (.inr hh)
   ·rcases y4 q o hq with hq | ⟨o',hq⟩
    ·exact .inl hq
    ·exact .inr (pubR_mem q o' hq).1
   ·rcases y5 q o hq hl with hq | ⟨q2,o2,hq,hl2,hb⟩
    ·exact .inl hq
    ·exact .inr ⟨q2,o2,(pubR_mem q2 o2 hq).2 hl2,hl2,hb⟩
  ·cases h
 ·obtain ⟨w',h1,h2,h3⟩ := storeR_spec g hv h hp
  exact ⟨w',H,h1,HLe.refl _,h2,h3 key⟩

theorem flat_take {s : Nat} : ∀ {rows : List (List D)} (n : Nat),(∀ r,r ∈ rows → r.length = s) → flat (rows.take n) = (flat rows).take (n * s)
 | [],n,_=>by simp [flat]
 | r :: l,0,_=>by simp [flat]
 | r :: l,n + 1,h=>by
  have ih := flat_take (rows := l) n fun x hx=>h x (List.mem_cons_of_mem _ hx)
  have hr := h r List.mem_cons_self
  have e1 : flat (r :: l) = r.map D.val ++ flat l := by simp [flat]
  have e2 : flat (r :: l.take n) = r.map D.val ++ flat (l.take n) := by simp [flat]
  rw [List.take_succ_cons,e1,e2,ih,List.take_append,List.length_map,hr]
  have e3 : (n + 1) * s = s + n * s := by rw [Nat.add_mul]; omega
  rw [e3,show s + n * s - s = n * s by omega,List.take_of_length_le (l := r.map D.val) (by simp [hr])]

theorem cutR_spec (g : Good C m E H w) {t : TypeId} {x : SV} {lo hi mx : Option SV} (hx : x.Ok H) (hk : Mem.has key m = false)
  {ps : List Prop} {v : SV} {m' : Mem} (h : cutR P m key t x lo hi mx = some (ps,v,m')) (hp : ∀ p,p ∈ ps → p) :
  ∃ w' E' H',(Instr.sliceAt t (x.den E) (lo.map (SV.den E)) (hi.map (SV.den E)) (mx.map (SV.den E))).run P w = .ok (v.den E') w' ∧ Agree key E E' ∧ HLe H H' ∧ Good C m' E' H' w' ∧ v.Ok H' ∧ Keeps m E H w key m' E' H' w' := by
 unfold cutR at h
 split at h
 ·rename_i k kd n
  split at h
  ·split at h
   ·rename_i e e' d ht hg
    split at h
    ·rename_i s hs
     split at h
     ·rename_i hee
      subst hee
      cases h
      have hp1 := hp _ (List.mem_singleton.2 rfl)
      have hmem := Mem.get_mem hg
      obtain ⟨hd,sz,rows,rfl,hv,how,hl,ho2,ha⟩ := g.own k _ hmem
      have hsub : subR P m t (.vec k) none (some (.int kd n)) none = some ([0 ≤ (0 : Int) ∧ (0 : Int) ≤ n ∧ n ≤ (D.slc hd sz rows).len ∧ (D.slc hd sz rows).Fits s],.dat ((D.slc hd sz rows).sub 0 n.toNat),pubR m (.vec k)) := by
       simp [subR,ht,hs,dataOf,hg,boundR]
      obtain ⟨H1,_,_,hrun,_⟩ := subR_spec g hx hsub (by
       intro p hp2
       rw [List.mem_singleton.1 hp2]
       exact ⟨Int.le_refl _,hp1⟩)
      obtain ⟨p1,p2,p3⟩ := hp1
      have hn : n.toNat ≤ rows.length := by simp only [D.len,D.rows] at p2; omega
      have hlt : (rows.take n.toNat).length = n.toNat := by rw [List.length_take]; omega
      have hva : ((D.slc hd sz rows).sub 0 n.toNat).val = hval hd n.toNat := by
       cases hd with
       | none=>simp [D.sub,D.val,D.hd,D.rows,D.sz,hval]
       | some q =>
        obtain ⟨a,c⟩ := q
        simp only [D.sub,D.val,D.hd,D.rows,D.sz,hval,Option.map_some,List.drop_zero,Nat.sub_zero,Nat.zero_mul,hlt]
        split
        ·rfl
        ·rw [show a.add 0 = a from by simp [Addr.add]]
      have hdel := fun j p=>Mem.del_ne (j := j) (p := p) g.keys hmem
      have hbk : (E.setV key (E.b k) (hd,n.toNat)).b key = E.b k := by simp [Env.setV]
      have hvk : (E.setV key (E.b k) (hd,n.toNat)).v key = (hd,n.toNat) := by simp [Env.setV]
      refine ⟨w,E.setV key (E.b k) (hd,n.toNat),H,?_,E.agree_setV _ _ _,HLe.refl _,?_,by simp [SV.Ok],?_⟩
      ·rw [show SV.den (E.setV key (E.b k) (hd,n.toNat)) (.vec key) = hval hd n.toNat by simp [SV.den,Env.setV],← hva]
       exact hrun
      ·refine Good.cons (g.sub (m.del_sub k)) (Mem.has_del hk) (E.agree_setV _ _ _) (Below.refl _ _) ⟨hd,sz,rows.take n.toNat,rfl,by rw [hvk,hlt],?_,fun r hr=>hl r (List.mem_of_mem_take hr),fun r hr=>ho2 r (List.mem_of_mem_take hr),fun a c hc=>?_⟩ fun hlies j p hj hlp=>?_
       ·have hfl := flat_take (rows := rows) n.toNat hl
        obtain ⟨hlen,hown⟩ := how
        refine ⟨?_,?_⟩
        ·rw [hlt,flat_len fun r hr=>hl r (List.mem_of_mem_take hr),hlt]
        ·rcases hown with ⟨hv1,h0⟩ | ⟨gb,cap,cur,hv1,hb1,hb2,hb3,hb4,hb5,hb6⟩
         ·left
          simp only [D.val] at hv1
          have : hd = none := by
           cases hd with
           | none=>rfl
           | some q=>simp [hval] at hv1
          subst this
          exact ⟨by simp [D.val,D.hd,hval],(by rw [hlt]; omega)⟩
         ·right
          simp only [D.val] at hv1
          cases hd with
          | none=>simp [hval] at hv1
          | some q =>
           obtain ⟨ad,c⟩ := q
           simp only [hval,Value.slice.injEq,Option.some.injEq] at hv1
           obtain ⟨rfl,_,rfl⟩ := hv1
           refine ⟨gb,c,cur,by simp [D.val,D.hd,D.rows,hval,hlt],hb1,hb2,(by rw [hlt]; omega),hb4,hb5,?_⟩
           rw [hlt,hfl,← hb6,List.take_take,Nat.min_eq_left (Nat.mul_le_mul_right _ hn)]
       ·rw [hbk]; exact ha a c hc
       ·rw [hbk]
        exact g.apart (k,_) (j,p) hmem (Mem.del_mem hj) (hdel j p hj).symm (by simpa [OBlk.Lies,D.hd] using hlies) hlp
      ·refine ⟨Nat.le_refl _,fun _ _ _=>rfl,fun _ _ _ hh=>.inl hh,fun q o hq=>?_,fun q o hq hl2=>?_,rfl,rfl,rfl⟩
       ·rcases List.mem_cons.1 hq with hq | hq
        ·cases hq; exact .inl rfl
        ·exact .inr ⟨o,Mem.del_mem hq⟩
       ·rcases List.mem_cons.1 hq with hq | hq
        ·cases hq
         right
         exact ⟨k,_,hmem,by simpa [OBlk.Lies,D.hd] using hl2,by rw [hbk]⟩
        ·right
         exact ⟨q,o,Mem.del_mem hq,hl2,((E.agree_setV key (E.b k) (hd,n.toNat)).1 q (Mem.has_key hk _ (Mem.del_mem hq)).1).1⟩
     ·cases h
    ·cases h
   ·cases h
  ·cases h
 ·cases h

theorem flat_app {a b : List (List D)} : flat (a ++ b) = flat a ++ flat b := by simp [flat]
theorem flat_rep {zr : List D} : ∀ n : Nat,flat (List.replicate n zr) = (List.replicate n (zr.map D.val)).flatten
 | 0=>rfl
 | n + 1=>by
  rw [List.replicate_succ,List.replicate_succ,List.flatten_cons,← flat_rep n]; simp [flat]
theorem flat_drop {s : Nat} : ∀ {rows : List (List D)} (n : Nat),(∀ r,r ∈ rows → r.length = s) → flat (rows.drop n) = (flat rows).drop (n * s)
 | [],n,_=>by simp [flat]
 | r :: l,0,_=>by simp [flat]
 | r :: l,n + 1,h=>by
  have ih := flat_drop (rows := l) n fun x hx=>h x (List.mem_cons_of_mem _ hx)
  have hr := h r List.mem_cons_self
  have e1 : flat (r :: l) = r.map D.val ++ flat l := by simp [flat]
  have e3 : (n + 1) * s = (r.map D.val).length + n * s := by rw [Nat.add_mul,List.length_map,hr]; omega
  rw [List.drop_succ_cons,e1,ih,e3,List.drop_length_add_append]
theorem flat_get_rep {zs : List Value} (h0 : 0 < zs.length) : ∀ (n i : Nat) (h : i < n * zs.length),(List.replicate n zs).flatten[i]'(by simpa using h) = zs[i % zs.length]'(Nat.mod_lt _ h0)
 | 0,i,h=>by simp at h
 | n + 1,i,h=>by
  simp only [List.replicate_succ,List.flatten_cons]
  by_cases hi : i < zs.length
  ·rw [List.getElem_append_left hi]
   congr 1
   exact (Nat.mod_eq_of_lt hi).symm
  ·have h2 : i - zs.length < n * zs.length := by rw [Nat.add_mul] at h; omega
   rw [List.getElem_append_right (by omega),flat_get_rep h0 n (i - zs.length) h2]
   congr 1
   rw [← Nat.mod_eq_sub_mod (by omega)]
theorem zeroCells_eq {zs : List Value} (n : Nat) : (Builtin.zeroCells zs.toArray n).toList = (List.replicate n zs).flatten := by
 unfold Builtin.zeroCells
 apply List.ext_getElem?
 intro i
 rcases Nat.eq_zero_or_pos zs.length with h0 | h0
 ·have : zs = [] := List.eq_nil_of_length_eq_zero h0
  subst this
  simp
 ·have hlen : (List.replicate n zs).flatten.length = n * zs.length := by simp
  by_cases hi : i < n * zs.length
  ·have hm : i % zs.length < zs.length := Nat.mod_lt _ h0
   rw [List.getElem?_eq_getElem (by simpa using hi),List.getElem?_eq_getElem (by rw [hlen]; exact hi)]
   congr 1
   have e := flat_get_rep h0 n i hi
   rw [e]
   simp [hm]
  ·rw [List.getElem?_eq_none (by simpa using hi),List.getElem?_eq_none (by rw [hlen]; omega)]
theorem Mem.set_get : ∀ {m : Mem} {k : Nat} {o : OBlk},m.get k = some o → m.set k o = m
 | [],_,_,_=>rfl
 | (j,p) :: r,k,o,h=>by
  simp only [Mem.get] at h
  simp only [Mem.set]
  split at h
  ·rename_i hj; cases h; rw [if_pos hj]
  ·rename_i hj; rw [if_neg hj,Mem.set_get h]
theorem clrR_spec (g : Good C m E H w) {t ty : TypeId} {x : SV} {ps : List Prop} {v : SV} {m' : Mem} (h : clrR P m t x = some (ps,v,m')) (hp : ∀ p,p ∈ ps → p) :
  ∃ w',(Builtin.clear_ #[t] ty #[x.den E]).run P w = .ok (v.den E) w' ∧ Good C m' E H w' ∧ v.Ok H ∧ ∀ key,Keeps m E H w key m' E H w' := by
 unfold clrR at h
 split at h
 ·rename_i k s lo n
  split at h
  ·rename_i e e' d ht hk
   split at h
   ·rename_i i hi
    split at h
    ·rename_i z hz
     split at h
     ·rename_i zs hzs
      split at h
      ·rename_i zr hzr
       split at h
       ·rename_i hee
        subst hee
        cases h
        obtain ⟨p1,p2,p3,p4⟩ := hp _ (List.mem_singleton.2 rfl)
        have hmem := Mem.get_mem hk
        obtain ⟨hd,sz,rows,rfl,hv',how,hrl,hro,ha⟩ := g.own k _ hmem
        simp only [D.sz] at p2
        subst p2
        simp only [D.len,D.rows] at p3 p4
        rcases Nat.eq_zero_or_pos n with rfl | hn
        ·have e1 : rows.take lo ++ (List.replicate 0 zr ++ rows.drop (lo + 0)) = rows := by simp
         refine ⟨w,?_,?_,by simp [SV.Ok,SV.OkL],fun key=>?_⟩
         ·simp only [SV.den,SV.denL]
          cases viewHd (E.v k).1 sz lo <;> simp [Builtin.clear_,hval,run_underlying ht]
         ·simp only [D.hd,D.sz,D.rows,e1,Mem.set_get hk]; exact g
         ·simp only [D.hd,D.sz,D.rows,e1,Mem.set_get hk]; exact Keeps.refl _ _ _ _ _
        ·obtain ⟨x1,x2,x3⟩ := cellDs_spec hzr (SV.cells?_ok hzs (ok_ofVal H z))
         have hcells := SV.cells?_den E hzs
         rw [den_ofVal,x1 E] at hcells
         cases hd with
         | none =>
          exfalso
          rcases how.2 with ⟨_,h0⟩ | ⟨g',cap,cur,h1,_⟩
          ·omega
          ·simp [D.val,hval] at h1
         | some q =>
          obtain ⟨a,c⟩ := q
          obtain ⟨rfl,hno⟩ := ha a c rfl
          rcases how with ⟨hfl,hcase⟩
          rcases hcase with ⟨h0,_⟩ | ⟨g',cap,cur,h1,hbase,hg,hnc,hcm,hcs,htake⟩
          ·simp [D.val,hval] at h0
          ·simp only [D.val,hval,Value.slice.injEq,Option.some.injEq,Addr.mk.injEq] at h1
           obtain ⟨⟨hgb,_,_⟩,_,rfl⟩ := h1
           subst hgb
           have hzl : (zr.map D.val).length = sz := by rw [List.length_map]; exact p1
           have hvl : (List.replicate n (zr.map D.val)).flatten.length = n * sz := by simp [p1]
           have hij : lo * sz + n * sz ≤ rows.length * sz := by
            rw [← Nat.add_mul]; exact Nat.mul_le_mul_right _ p3
           have hrc : rows.length * sz ≤ c * sz := Nat.mul_le_mul_right _ hnc
           have hst := run_storeCells_at P (E.b k) (lo * sz) e' (List.replicate n (zr.map D.val)).flatten 0 cur w hg (by rw [hvl,hcs]; omega)
            (fun u hu=>by
             obtain ⟨l,hl,hu⟩ := List.mem_flatten.1 hu
             rw [List.eq_of_mem_replicate hl,List.mem_map] at hu
             obtain ⟨x,_,rfl⟩ := hu; exact x.val_one)
           have hne : ¬c = lo := by omega
           have hadd : (⟨E.b k,0,none⟩ : Addr).add (lo * sz) = ⟨E.b k,lo * sz,none⟩ := by unfold Addr.add; split <;> simp_all
           refine ⟨w.setRow (E.b k) (cur.toList.take (lo * sz + 0) ++ (List.replicate n (zr.map D.val)).flatten ++ cur.toList.drop (lo * sz + 0 + (List.replicate n (zr.map D.val)).flatten.length)).toArray,?_,?_,by simp [SV.Ok,SV.OkL],fun key=>?_⟩
           ·have hzc : (Builtin.zeroCells z.cells n).toList = (List.replicate n (zr.map D.val)).flatten := by rw [hcells]; exact zeroCells_eq n
            have hzv : (zeroValue e').run P w = .ok z w := by simp [zeroValue,typeInfo,hi,hz]
            simp only [SV.den,SV.denL,hv',viewHd,Option.map_some,if_neg hne,hadd,hval]
            obtain ⟨n',rfl⟩ : ∃ n',n = n' + 1 := ⟨n - 1,by omega⟩
            simp only [Builtin.clear_,List.getElem?_toArray,List.getElem?_cons_zero,Sem.run_bind,run_underlying ht,Result.andThen_ok,hzv,hzc,hst,Sem.run_pure]
           ·have hrow : ∀ r,r ∈ rows.take lo ++ (List.replicate n zr ++ rows.drop (lo + n)) → r.length = sz ∧ ∀ x,x ∈ r → x.Ok H := by
             intro r hr
             simp only [List.mem_append] at hr
             rcases hr with hr | hr | hr
             ·exact ⟨hrl r (List.mem_of_mem_take hr),hro r (List.mem_of_mem_take hr)⟩
             ·rw [List.eq_of_mem_replicate hr]; exact ⟨p1,x2⟩
             ·exact ⟨hrl r (List.mem_of_mem_drop hr),hro r (List.mem_of_mem_drop hr)⟩
            have hlen' : (rows.take lo ++ (List.replicate n zr ++ rows.drop (lo + n))).length = rows.length := by
             simp only [List.length_append,List.length_take,List.length_replicate,List.length_drop]; omega
            refine g.put hk (fun q hq=>setRow_other w _ q _ hq) rfl rfl rfl (by simp [World.setRow]) (by simp [OBlk.Lies,D.hd]) ?_
            refine ⟨some (⟨E.b k,0,none⟩,c),sz,rows.take lo ++ (List.replicate n zr ++ rows.drop (lo + n)),rfl,by rw [hv',hlen'],?_,fun r hr=>(hrow r hr).1,fun r hr=>(hrow r hr).2,fun a c' h=>by
             simp only [Option.some.injEq,Prod.mk.injEq] at h; obtain ⟨rfl,_⟩ := h; exact ⟨rfl,hno⟩⟩
            refine ⟨?_,.inr ⟨E.b k,c,_,?_,hbase,setRow_heap w _ _ _ e' _ hg,by rw [hlen']; exact hnc,hcm,?_,?_⟩⟩
            ·rw [flat_len (fun r hr=>(hrow r hr).1)]
            ·simp [D.val,hval,D.hd,D.rows]
            ·simp only [List.size_toArray,List.length_append,List.length_take,List.length_drop,hvl,Array.length_toList,hcs]; omega
            ·rw [hlen',flat_app,flat_app,flat_rep,flat_take lo hrl,flat_drop (lo + n) hrl,← htake,hvl]
             simp only [Nat.add_zero]
             have hcl : cur.toList.length = c * sz := by simp [hcs]
             rw [← List.append_assoc,Nat.add_mul]
             exact splice_take _ _ _ _ _ hvl hij (by rw [hcl]; exact hrc)
           ·have hspec := Mem.set_spec (o' := .arr e' (.slc (some (⟨E.b k,0,none⟩,c)) sz (rows.take lo ++ (List.replicate n zr ++ rows.drop (lo + n))))) g.keys hk
            refine ⟨by simp [World.setRow],fun q hq hno'=>setRow_other w _ q _ (fun e'=>hno' k _ hmem (by simp [OBlk.Lies,D.hd]) e'.symm),fun _ _ _ h=>.inl h,fun q o hq=>?_,fun q o hq hl2=>?_,rfl,rfl,rfl⟩
            ·rcases hspec q o hq with ⟨rfl,_⟩ | ⟨_,h⟩
             ·exact .inr ⟨_,hmem⟩
             ·exact .inr ⟨o,h⟩
            ·rcases hspec q o hq with ⟨rfl,_⟩ | ⟨_,h⟩
             ·exact .inr ⟨q,_,hmem,by simp [OBlk.Lies,D.hd],rfl⟩
             ·exact .inr ⟨q,o,h,hl2,rfl⟩
       ·cases h
      ·cases h
     ·cases h
    ·cases h
   ·cases h
  ·cases h
 ·cases h

theorem viewR_spec (g : Good C m E H w) {t : TypeId} {x : SV} {lo hi mx : Option SV} (hx : x.Ok H)
  {ps : List Prop} {v : SV} {m' : Mem} (h : viewR P m t x lo hi mx = some (ps,v,m')) (hp : ∀ p,p ∈ ps → p) :
  (Instr.sliceAt t (x.den E) (lo.map (SV.den E)) (hi.map (SV.den E)) (mx.map (SV.den E))).run P w = .ok (v.den E) w ∧ m' = m ∧ v.Ok H := by
 unfold viewR at h
 split at h
 ·rename_i k kd l
  split at h
  ·rename_i e e' d ht hg
   split at h
   ·rename_i s hs
    cases h
    have hp1 := hp _ (List.mem_singleton.2 rfl)
    have hmem := Mem.get_mem hg
    obtain ⟨hd,sz,rows,rfl,hv,how,hl,ho2,ha⟩ := g.own k _ hmem
    have hsub : subR P m t (.vec k) (some (.int kd l)) none none = some ([0 ≤ l ∧ l ≤ ((D.slc hd sz rows).len : Int) ∧ ((D.slc hd sz rows).len : Int) ≤ (D.slc hd sz rows).len ∧ (D.slc hd sz rows).Fits s],.dat ((D.slc hd sz rows).sub l.toNat (Int.toNat ((D.slc hd sz rows).len : Int))),pubR m (.vec k)) := by
     simp [subR,ht,hs,dataOf,hg,boundR]
    obtain ⟨H1,_,_,hrun,_⟩ := subR_spec g hx hsub (by
     intro p hp2
     rw [List.mem_singleton.1 hp2]
     exact ⟨hp1.1,hp1.2.1,Int.le_refl _,hp1.2.2⟩)
    refine ⟨?_,rfl,by simp [SV.Ok]⟩
    rw [show (SV.view k s l.toNat ((D.slc hd sz rows).len - l.toNat)).den E = (SV.dat ((D.slc hd sz rows).sub l.toNat (Int.toNat ((D.slc hd sz rows).len : Int)))).den E from ?_]
    ·exact hrun
    ·obtain ⟨q1,q2,q3⟩ := hp1
     simp only [D.len,D.rows] at q2
     have e1 : ((rows.drop l.toNat).take (rows.length - l.toNat)).length = rows.length - l.toNat := by rw [List.length_take,List.length_drop]; omega
     simp only [SV.den,hv,D.sub,D.val,D.hd,D.rows,D.sz,D.len,Int.toNat_natCast,e1]
     congr 1
     unfold viewHd
     rcases q3 with q3 | q3
     ·simp only [D.rows] at q3
      subst q3
      have : l = 0 := by simp at q2; omega
      subst this
      simp
     ·simp only [D.sz] at q3
      subst q3; rfl
   ·cases h
  ·cases h
 ·rename_i k s lo' n kd l
  split at h
  ·rename_i e e' d ht hg
   split at h
   ·rename_i s' hs
    split at h
    ·rename_i hss
     subst hss
     cases h
     obtain ⟨p1,p2,p3,p4,p5⟩ := hp _ (List.mem_singleton.2 rfl)
     obtain ⟨v1,H',g',hok'⟩ := view_dat g hg p3 p4
     obtain ⟨v2,_⟩ := view_dat (lo := lo' + l.toNat) (n := n - l.toNat) g hg (by omega) p4
     have hl : (d.sub lo' (lo' + n)).len = n := by
      show ((d.rows.drop lo').take (lo' + n - lo')).length = n
      rw [List.length_take,List.length_drop]
      have : d.len = d.rows.length := rfl
      omega
     have hsub : subR P (m.set k (.pub d)) t (.dat (d.sub lo' (lo' + n))) (some (.int kd l)) none none = some ([0 ≤ l ∧ l ≤ ((d.sub lo' (lo' + n)).len : Int) ∧ ((d.sub lo' (lo' + n)).len : Int) ≤ (d.sub lo' (lo' + n)).len ∧ (d.sub lo' (lo' + n)).Fits s'],.dat ((d.sub lo' (lo' + n)).sub l.toNat (Int.toNat ((d.sub lo' (lo' + n)).len : Int))),pubR (m.set k (.pub d)) (.dat (d.sub lo' (lo' + n)))) := by
      simp [subR,ht,hs,dataOf,boundR]
     obtain ⟨H1,_,_,hrun,_⟩ := subR_spec g' hok' hsub (by
      intro p hp2
      rw [List.mem_singleton.1 hp2]
      exact ⟨p1,by rw [hl]; exact p2,Int.le_refl _,.inr (by simpa [D.sub,D.sz] using p4)⟩)
     refine ⟨?_,rfl,by simp [SV.Ok]⟩
     rw [v1,v2]
     rw [show (SV.dat (d.sub (lo' + l.toNat) (lo' + l.toNat + (n - l.toNat)))).den E = (SV.dat ((d.sub lo' (lo' + n)).sub l.toNat (Int.toNat ((d.sub lo' (lo' + n)).len : Int)))).den E from ?_]
     ·exact hrun
     ·obtain ⟨hd,sz,rows,rfl,_⟩ := g.own k _ (Mem.get_mem hg)
      obtain ⟨hv,f1,f2⟩ := arr_facts g hg
      rw [hl]
      simp only [D.len,D.rows] at p3
      have e1 : ((rows.drop (lo' + l.toNat)).take (lo' + l.toNat + (n - l.toNat) - (lo' + l.toNat))).length = n - l.toNat := by rw [List.length_take,List.length_drop]; omega
      have e2 : ((((rows.drop lo').take (lo' + n - lo')).drop l.toNat).take (n - l.toNat)).length = n - l.toNat := by
       rw [List.length_take,List.length_drop,List.length_take,List.length_drop]; omega
      cases hd with
      | none=>simp only [SV.den,D.sub,D.val,D.hd,D.rows,D.sz,Option.map_none,hval]
      | some ac =>
       obtain ⟨a,c⟩ := ac
       obtain ⟨rfl,hcap⟩ := f2 a c rfl
       have hc : c ≠ lo' + l.toNat := by
        rcases p5 with h5 | h5
        ·omega
        ·exact h5 _ c rfl
       have n1 : ¬ c = lo' := by
        intro hcl
        have : l.toNat = 0 := by omega
        omega
       have n2 : ¬ (c - lo' = l.toNat) := by omega
       simp only [SV.den,D.sub,D.val,D.hd,D.rows,D.sz,Option.map_some,Int.toNat_natCast,hval,if_neg hc,if_neg n1,if_neg n2,e1,e2]
       simp [add_none,Nat.add_mul]
       omega
    ·cases h
   ·cases h
  ·cases h
 ·cases h

theorem lenV_spec (g : Good C m E H w) {t ty e : TypeId} (hu : P.underlying t = some (.slice e)) (x : SV) {R : Value → World → Prop} (hR : ∀ v,(Builtin.len_ #[t] ty #[x.den E]).run P w = .ok v w → R v w) :
  (lenV m x).Right C m w key E H R := by
 unfold lenV
 split
 ·rename_i k s lo n
  split
  ·rename_i e' d hg
   refine right_val g fun hp=>⟨hR _ ?_,by simp [SV.Ok]⟩
   have p1 := hp _ (List.mem_singleton.2 rfl)
   obtain ⟨hd,sz,rows,rfl,_⟩ := g.own k _ (Mem.get_mem hg)
   obtain ⟨hv,f1,f2⟩ := arr_facts g hg
   simp only [D.len,D.rows] at p1
   cases hd with
   | none =>
    rw [f1 rfl] at p1
    have hn : n = 0 := by simp at p1; omega
    subst hn
    simp [SV.den,hv,viewHd,hval,Builtin.len_,run_underlying hu,goInt]
   | some ac=>simp [SV.den,hv,viewHd,hval,Builtin.len_,run_underlying hu,goInt]
  ·trivial
 ·exact right_val g fun _=>⟨hR _ (by simp [SV.den,Builtin.len_,run_underlying hu,goInt]),by simp [SV.Ok]⟩
 ·trivial

theorem lenV_run (g : Good C m E H w) {t ty e : TypeId} (hu : P.underlying t = some (.slice e)) {x : SV} {ps : List Prop} {v : SV} {m' : Mem} (h : lenV m x = .val ps v m') (hp : ∀ p,p ∈ ps → p) :
  (Builtin.len_ #[t] ty #[x.den E]).run P w = .ok (v.den E) w ∧ v.Ok H := by
 unfold lenV at h
 split at h
 ·rename_i k s lo n
  split at h
  ·rename_i e' d hg
   cases h
   refine ⟨?_,by simp [SV.Ok]⟩
   have p1 := hp _ (List.mem_singleton.2 rfl)
   obtain ⟨hd,sz,rows,rfl,_⟩ := g.own k _ (Mem.get_mem hg)
   obtain ⟨hv,f1,f2⟩ := arr_facts g hg
   simp only [D.len,D.rows] at p1
   cases hd with
   | none =>
    rw [f1 rfl] at p1
    have hn : n = 0 := by simp at p1; omega
    subst hn
    simp [SV.den,hv,viewHd,hval,Builtin.len_,run_underlying hu,goInt]
   | some ac=>simp [SV.den,hv,viewHd,hval,Builtin.len_,run_underlying hu,goInt]
  ·cases h
 ·cases h
  exact ⟨by simp [SV.den,Builtin.len_,run_underlying hu,goInt],by simp [SV.Ok]⟩
 ·cases h

theorem opr_spec (g : Good C m E H w) (hev : ∀ x,a.eval x = (ev x).den E) (hok : ∀ x,(ev x).Ok H) (hk : Mem.has key m = false) (hk2 : ∀ x,(ev x).has key = false) :
  (opr P ev m key o.op).Right C m w key E H (RunsTo P a o w) := by
 obtain ⟨dst,op,type,pos,after,guard⟩ := o
 have evn : a.eval = fun x=>(ev x).den E := funext hev
 have hasCells : ∀ x cs,(ev x).cells? = some cs → SV.hasL key cs = false := by
  intro x cs hc
  have := hk2 x
  cases hx : ev x <;> rw [hx] at hc this <;> simp [SV.cells?] at hc <;> subst hc <;> simp_all [SV.has,SV.hasL]
 cases op <;> simp only [opr] <;> try exact trivial
 case move x=>exact right_val g fun _=>⟨.inl (by simp [execOp,evn]),hok x⟩
 case assign x=>exact right_val g fun _=>⟨.inl (by simp [execOp,evn]),hok x⟩
 case pick c x y =>
  split
  ·rename_i hc; exact right_val g fun _=>⟨.inl (by simp [execOp,evn,hc,SV.den,run_bool]),hok x⟩
  ·rename_i hc; exact right_val g fun _=>⟨.inl (by simp [execOp,evn,hc,SV.den,run_bool]),hok y⟩
  ·trivial
 case alloc t =>
  split
  ·rename_i i hi
   split
   ·rename_i z hz
    split
    ·rename_i cs hcs
     intro _
     have hnk : SV.hasL key cs = false := by
      have h1 : ∀ v : Value,(ofVal1 v).has key = false := by intro v; unfold ofVal1; split <;> simp [SV.has]
      have h2 : (ofVal z).has key = false := by
       unfold ofVal
       split
       ·simp only [SV.has,SV.hasL_iff]; intro x hx; obtain ⟨y,_,rfl⟩ := List.mem_map.1 hx; exact h1 y
       ·exact h1 _
      cases hx : ofVal z <;> rw [hx] at hcs h2 <;> simp [SV.cells?] at hcs <;> subst hcs <;> simp_all [SV.has,SV.hasL]
     refine ⟨_,_,H,.inl ?_,E.agree_set _ _,HLe.refl _,g.alloc t cs hk hnk (SV.cells?_ok hcs (ok_ofVal H z)),by simp [SV.Ok],keeps_alloc hk⟩
     have hcl := SV.cells?_den E hcs
     rw [den_ofVal] at hcl
     simp [execOp,Instr.alloc,zeroValue,typeInfo,hi,hz,newVar,newRow,hcl,SV.den,Env.set]
    ·trivial
   ·trivial
  ·trivial
 case box t x =>
  split
  ·rename_i cs hcs
   intro _
   refine ⟨_,_,H,.inl ?_,E.agree_set _ _,HLe.refl _,g.alloc t cs hk (hasCells x cs hcs) (SV.cells?_ok hcs (hok x)),by simp [SV.Ok],keeps_alloc hk⟩
   simp [execOp,evn,Instr.box,newVar,newRow,SV.cells?_den E hcs,SV.den,Env.set]
  ·trivial
 case build t ps =>
  split
  ·rename_i v hv
   obtain ⟨h1,h2⟩ := buildR_spec (E := E) (w := w) (H := H) hv (fun p hp=>by obtain ⟨y,_,rfl⟩ := List.mem_map.1 hp; exact hok _)
   refine right_val g fun _=>⟨.inl ?_,h2⟩
   simp only [List.map_map] at h1
   have e : (ps.map fun x=>(x.1,(ev x.2).den E)) = (ps.toList.map ((fun p : Nat × SV=>(p.1,p.2.den E)) ∘ fun x=>(x.1,ev x.2))).toArray := by
    rw [array_map_list]; rfl
   simp only [execOp,evn,Sem.run_bind]
   rw [show (ps.map fun x=>match x with | (i,x)=>(i,(ev x).den E)) = (ps.map fun x=>(x.1,(ev x.2).den E)) from rfl,e,h1]
   rfl
  ·trivial
 case buildSlice t len ps =>
  split
  ·rename_i e ht
   split
   ·rename_i i hi
    split
    ·rename_i z rows hz hrows
     split
     ·rename_i hc
      obtain ⟨hl,hb1,hb2⟩ := hc
      intro _
      obtain ⟨H',hle,g',nw⟩ := pubsR_spec (cellsOfL (ps.toList.map fun x=>ev x.2)) g
      have hpm := pubsR_mem (cellsOfL (ps.toList.map fun x=>ev x.2)) (m := m)
      obtain ⟨w',h,b,hrun,hg,hbel,hbb⟩ := g'.buildSlice (P := P) ht hi hz hrows (fun p hp=>by obtain ⟨y,_,rfl⟩ := List.mem_map.1 hp; exact (hok _).mono hle)
       (by simpa [← hl] using hb1) (by simp [← hl,maxLen]; omega) key (has_pubsR _ hk)
      refine ⟨fun _=>.slc h 0 [],w',_,H',.inl ?_,E.agree_setV _ _ _,hle,hg,by simp [SV.Ok],hbel.size,fun j hj _=>hbel.block j hj,fun b x v hh=>(nw b x v hh).imp id .inr,fun q o hq=>?_,fun q o hq hl=>?_,hbel.os,hbel.tape,hbel.output⟩
      rotate_left
      ·rcases List.mem_cons.1 hq with hq | hq
       ·cases hq; exact .inl rfl
       ·exact .inr (hpm q o hq).1
      ·rcases List.mem_cons.1 hq with hq | hq
       ·cases hq
        left
        rw [show (E.setV key b (h,rows.length)).b key = b from by simp [Env.setV],hbb (by simpa [OBlk.Lies,D.hd] using hl)]
        exact Nat.le_refl _
       ·right
        have hq2 := (hpm q o hq).2 hl
        exact ⟨q,o,hq2,hl,((E.agree_setV key b (h,rows.length)).1 q (Mem.has_key hk _ hq2).1).1⟩
      have e : (ps.map fun x=>(x.1,(ev x.2).den E)) = (((ps.toList.map fun x=>(x.1,ev x.2))).map (fun p : Nat × SV=>(p.1,p.2.den E))).toArray := by
       rw [array_map_list,List.map_map]; rfl
      have hlen : ((ps.toList.map fun x=>(x.1,ev x.2))).length = len := by simp [hl]
      rw [hlen] at hrun
      simp only [execOp,evn,Sem.run_bind]
      rw [show (ps.map fun x=>match x with | (i,x)=>(i,(ev x).den E)) = (ps.map fun x=>(x.1,(ev x.2).den E)) from rfl,e,hrun]
      simp [SV.den,Env.setV]
     ·trivial
    ·rename_i z hz hrows
     split
     ·rename_i cs hcs
      split
      ·rename_i hc
       obtain ⟨hl,hb1,hb2,hb3⟩ := hc
       intro _
       obtain ⟨w',hrun,hg,hbel⟩ := g.buildSl (P := P) ht hi hz hcs (fun p hp=>by obtain ⟨y,_,rfl⟩ := List.mem_map.1 hp; exact hok _)
        (by simpa [← hl] using hb1) (by simp [← hl,maxLen]; omega) (by simpa [← hl] using hb3) key hk (fun p hp=>by obtain ⟨y,_,rfl⟩ := List.mem_map.1 hp; exact hk2 _)
       refine ⟨w',_,H,.inl ?_,E.agree_set _ _,HLe.refl _,hg,by simp [SV.Ok],hbel.size,fun j hj _=>hbel.block j hj,fun _ _ _ h=>.inl h,fun q o hq=>?_,fun q o hq hl=>?_,hbel.os,hbel.tape,hbel.output⟩
       rotate_left
       ·rcases List.mem_cons.1 hq with hq | hq
        ·cases hq; exact .inl rfl
        ·exact .inr ⟨o,hq⟩
       ·rcases List.mem_cons.1 hq with hq | hq
        ·cases hq; left; simp [Env.set]
        ·right; exact ⟨q,o,hq,hl,((E.agree_set key w.heap.size).1 q (Mem.has_key hk _ hq).1).1⟩
       have e : (ps.map fun x=>(x.1,(ev x.2).den E)) = (((ps.toList.map fun x=>(x.1,ev x.2))).map (fun p : Nat × SV=>(p.1,p.2.den E))).toArray := by
        rw [array_map_list,List.map_map]; rfl
       have hlen : ((ps.toList.map fun x=>(x.1,ev x.2))).length = len := by simp [hl]
       rw [hlen] at hrun
       simp only [execOp,evn,Sem.run_bind]
       rw [show (ps.map fun x=>match x with | (i,x)=>(i,(ev x).den E)) = (ps.map fun x=>(x.1,(ev x.2).den E)) from rfl,e,hrun]
       simp
      ·trivial
     ·trivial
    ·trivial
   ·trivial
  ·trivial
 case load t x =>
  split
  ·rename_i ps v hv
   refine right_val g fun hp=>?_
   obtain ⟨h1,h2⟩ := loadR_spec g (hok x) hv hp
   exact ⟨.inl (by simp only [execOp,evn,Sem.run_bind,h1]; rfl),h2⟩
  ·trivial
 case store t x y =>
  split
  ·rename_i ps m' hv
   intro hp
   obtain ⟨w',H',h1,h0,h2,h3⟩ := storeV_spec g (hok y) hv hp key
   exact ⟨w',E,H',.inr ⟨by simp only [execOp,evn,Sem.run_bind,h1]; rfl,rfl⟩,Agree.refl _ _,h0,h2,by simp [SV.Ok],h3⟩
  ·trivial
 case nilCheck x =>
  have hx := hok x
  split
  all_goals first | trivial | (rename_i hc; rw [hc] at hx; exact right_val g fun _=>⟨.inl (by simp [execOp,evn,hc,SV.den]),hx⟩)
 case binOp op t x y yt =>
  split
  ·rename_i ps v hv
   refine right_val g fun hp=>?_
   obtain ⟨h1,h2⟩ := binR_spec g (hok x) hv hp x y
   exact ⟨.inl (by simp only [execOp,evn]; rw [Sem.run_bind,h1]; rfl),h2⟩
  ·trivial
 case unOp op t x =>
  split
  ·rename_i v hv
   obtain ⟨h1,h2⟩ := unR_spec (P := P) (E := E) (H := H) (w := w) hv
   exact right_val g fun _=>⟨.inl (by simp only [execOp,evn,Sem.run_bind,h1]; rfl),h2⟩
  ·trivial
 case convert src dst x =>
  split
  ·rename_i ds k k' n hs hd hx
   refine right_val g fun _=>⟨.inl ?_,by simp [SV.Ok]⟩
   simp only [execOp,evn,hx,SV.den,Go.convert,Sem.run_bind,run_underlying hs,run_underlying hd,Result.andThen_ok]
   cases ds <;> simp [Conv.intToInt]
  ·rename_i e hs hd
   split
   ·rename_i d he hda
    refine right_val g fun hp=>⟨.inl ?_,by simp [SV.Ok]⟩
    simp only [execOp,evn,Sem.run_bind,bytes_spec g (hok x) hda (hp _ (List.mem_singleton.2 rfl)) hs he hd]
    rfl
   ·trivial
  ·trivial
 case makeSlice t l c =>
  split
  ·rename_i e ht
   split
   ·rename_i i hi
    split
    ·rename_i z k1 n k2 n' hz hel hec
     split
     ·rename_i zs hzs
      split
      ·rename_i zr hzr
       split
       ·rename_i hcond
        obtain ⟨hsz,h0⟩ := hcond
        obtain ⟨x1,x2,x3⟩ := cellDs_spec (H := H) hzr (SV.cells?_ok hzs (ok_ofVal H z))
        have hcl := SV.cells?_den E hzs
        rw [den_ofVal,x1 E] at hcl
        have hzl : zr.map D.val = z.cells.toList := by rw [hcl]
        split
        ·split
         ·split
          ·split
           ·rename_i hc
            obtain ⟨c1,c2,c3⟩ := hc
            intro hp
            have p2 : n' = n := hp _ (List.mem_singleton.2 rfl)
            subst p2
            have hrun := run_make (P := P) w t e i z ht hi hz k1 k2 n' n' (by omega) (Int.le_refl _) c3 (by omega)
            rw [← hsz] at hrun
            have hz1 : zr = [.slc none 0 []] := by simpa [cellDs,SV.cellD] using hzr.symm
            subst hz1
            refine ⟨_,_,H,.inl ?_,E.agree_set _ _,HLe.refl _,g.makeSl hk hzl n'.toNat,by simp [SV.Ok],keeps_makeSl hk⟩
            simp only [execOp,evn,hel,hec,SV.den,Sem.run_bind,hrun]
            simp [Env.set]
           ·trivial
          ·trivial
         ·intro hp
          obtain ⟨p1,p2,p3,p4⟩ := hp _ (List.mem_singleton.2 rfl)
          subst p2
          have hrun := run_make (P := P) w t e i z ht hi hz k1 k2 n' n' p1 (Int.le_refl _) p3 p4
          rw [← hsz] at hrun
          have hmax : n'.toNat ≤ maxLen := by simp only [maxLen]; omega
          refine ⟨fun _=>.slc (some (⟨w.heap.size,0,none⟩,n'.toNat)) 0 [],_,_,H,.inl ?_,E.agree_setV _ _ _,HLe.refl _,g.makeArr hk hzl h0 x2 n'.toNat hmax,by simp [SV.Ok],keeps_makeArr hk⟩
          simp only [execOp,evn,hel,hec,SV.den,Sem.run_bind,hrun]
          simp [Env.setV,hval]
        ·intro hp
         obtain ⟨p1,p2,p3,p4⟩ := hp _ (List.mem_singleton.2 rfl)
         have hrun := run_make (P := P) w t e i z ht hi hz k1 k2 n n' p1 p2 p3 p4
         rw [← hsz] at hrun
         have hmax : n'.toNat ≤ maxLen := by simp only [maxLen]; omega
         refine ⟨fun _=>.slc (some (⟨w.heap.size,0,none⟩,n'.toNat)) 0 [],_,_,H,.inl ?_,E.agree_setV _ _ _,HLe.refl _,g.makeArr2 hk hzl h0 x2 n.toNat n'.toNat (by omega) hmax,by simp [SV.Ok],keeps_makeArr hk⟩
         simp only [execOp,evn,hel,hec,SV.den,Sem.run_bind,hrun]
         simp [Env.setV,hval]
       ·trivial
      ·trivial
     ·trivial
    ·trivial
   ·trivial
  ·trivial
 case makeMap t r =>
  cases r with
  | none=>exact fun _=>⟨_,_,H,.inl (by simp [execOp,evn,Instr.makeMap,SV.den,Env.set]),E.agree_set _ _,HLe.refl _,g.allocMap hk,by simp [SV.Ok],keeps_allocO hk⟩
  | some r=>trivial
 case insert t x i v =>
  split
  ·rename_i m' hv
   intro hp
   obtain ⟨w',h1,h2,h3⟩ := insR_spec (P := P) g (hok v) hv
   exact ⟨w',E,H,.inr ⟨by simp only [execOp,evn,Sem.run_bind,h1]; rfl,rfl⟩,Agree.refl _ _,HLe.refl _,h2,by simp [SV.Ok],h3 key⟩
  ·trivial
 case mapUpdate t x i v =>
  split
  ·rename_i m' hv
   intro hp
   obtain ⟨w',h1,h2,h3⟩ := insR_spec (P := P) g (hok v) hv
   exact ⟨w',E,H,.inr ⟨by simp only [execOp,evn,Sem.run_bind,h1]; rfl,rfl⟩,Agree.refl _ _,HLe.refl _,h2,by simp [SV.Ok],h3 key⟩
  ·trivial
 case lookup t x i ok =>
  split
  ·rename_i l d hv
   obtain ⟨h1,h2⟩ := lookR_spec (P := P) g hv
   exact right_val g fun _=>⟨.inl (by simp only [execOp,evn,Sem.run_bind,h1]; rfl),h2⟩
  ·trivial
 case extract x i =>
  split
  ·rename_i l hx
   split
   ·rename_i v hv
    have := hok x
    rw [hx] at this
    refine right_val g fun _=>⟨.inl ?_,(SV.OkL_iff l).1 this v (List.mem_of_getElem? hv)⟩
    simp [execOp,evn,hx,SV.den,Instr.extract,SV.denL_eq,hv]
   ·trivial
  ·trivial
 case fieldAddr s x f =>
  split
  ·rename_i v hv
   obtain ⟨h1,h2⟩ := fieldR_spec (E := E) (w := w) hv (hok x)
   exact right_val g fun _=>⟨.inl (by simp only [execOp,evn,Sem.run_bind,h1]; rfl),h2⟩
  ·trivial
 case indexAddr t x i =>
  split
  ·rename_i ps v hv
   refine right_val g fun hp=>?_
   obtain ⟨h1,h2⟩ := indexR_spec g (hok x) hv hp
   exact ⟨.inl (by simp only [execOp,evn,Sem.run_bind,h1]; rfl),h2⟩
  ·trivial
 case slice t x lo hi mx =>
  unfold sliceR
  split
  ·rename_i ps v m' hv
   intro hp
   obtain ⟨w',E',H',h3,h1,h2,h4,h5,h6⟩ := cutR_spec g (hok x) hk hv hp
   refine ⟨w',E',H',.inl ?_,h1,h2,h4,h5,h6⟩
   simp only [Option.map_map] at h3
   simp only [execOp,evn,Sem.run_bind]
   rw [show (Option.map (fun x=>(ev x).den E) lo) = Option.map (SV.den E ∘ ev) lo from rfl,show (Option.map (fun x=>(ev x).den E) hi) = Option.map (SV.den E ∘ ev) hi from rfl,
    show (Option.map (fun x=>(ev x).den E) mx) = Option.map (SV.den E ∘ ev) mx from rfl,h3]
   rfl
  split
  ·rename_i ps v m' hv
   intro hp
   obtain ⟨h3,hm,hvo⟩ := viewR_spec g (hok x) hv hp
   subst hm
   refine ⟨w,E,H,.inl ?_,Agree.refl _ _,HLe.refl _,g,hvo,Keeps.refl _ _ _ _ _⟩
   simp only [Option.map_map] at h3
   simp only [execOp,evn,Sem.run_bind]
   rw [show (Option.map (fun x=>(ev x).den E) lo) = Option.map (SV.den E ∘ ev) lo from rfl,show (Option.map (fun x=>(ev x).den E) hi) = Option.map (SV.den E ∘ ev) hi from rfl,
    show (Option.map (fun x=>(ev x).den E) mx) = Option.map (SV.den E ∘ ev) mx from rfl,h3]
   rfl
  split
  ·rename_i ps v m' hv
   intro hp
   obtain ⟨H',h1,h2,h3,h4,h5,h6⟩ := subR_spec g (hok x) hv hp
   refine ⟨w,E,H',.inl ?_,Agree.refl _ _,h1,h2,h4,keeps_pub (by rw [h6]; exact pubR_mem) h5⟩
   simp only [Option.map_map] at h3
   simp only [execOp,evn,Sem.run_bind]
   rw [show (Option.map (fun x=>(ev x).den E) lo) = Option.map (SV.den E ∘ ev) lo from rfl,show (Option.map (fun x=>(ev x).den E) hi) = Option.map (SV.den E ∘ ev) hi from rfl,
    show (Option.map (fun x=>(ev x).den E) mx) = Option.map (SV.den E ∘ ev) mx from rfl,h3]
   rfl
  ·trivial
 case makeFunc fn first captured =>
  split
  ·refine right_val g fun _=>⟨.inl ?_,?_⟩
   ·simp only [execOp,evn,Instr.makeFunc,SV.den,SV.denL_eq,array_map_list,List.map_map]; rfl
   ·simp only [SV.Ok,SV.OkL_iff]
    exact ⟨fun x hx=>by obtain ⟨y,_,rfl⟩ := List.mem_map.1 hx; exact hok y,fun x hx=>by obtain ⟨y,_,rfl⟩ := List.mem_map.1 hx; exact hok y⟩
  ·trivial
 case call c =>
  obtain ⟨callee,args,argTypes⟩ := c
  split
  ·rename_i b hb
   simp only at hb
   subst hb
   simp only [callB]
   split
   ·rename_i x t ha ht
    split
    ·rename_i e d hu hd
     obtain ⟨hv,_⟩ := dataOf_spec g (hok x) hd
     refine right_val g fun _=>⟨.inl ?_,by simp [SV.Ok]⟩
     have ea : args = #[x] := by rw [← Array.toArray_toList (xs := args),ha]
     have et : argTypes = #[t] := by rw [← Array.toArray_toList (xs := argTypes),ht]
     subst ea; subst et
     simp only [execOp,evn,resolve,invoke,builtin,Sem.run_bind,Sem.run_pure,Result.andThen_ok,List.map_toArray,List.map_cons,List.map_nil]
     have : (Builtin.len_ #[t] type #[(ev x).den E]).run P w = .ok (.int .i64 d.len) w := by
      rw [hv]
      cases hh : d.hd with
      | none =>
       have h0 : d.len = 0 := by
        obtain ⟨hv2,hr,_⟩ := dataOf_spec g (hok x) hd
        rcases hr.2 with ⟨_,h0⟩ | ⟨a',c',h1,_⟩
        ·simp [D.len,h0]
        ·rw [hv2,hh] at h1; simp [hval] at h1
       simp [Builtin.len_,hval,run_underlying hu,goInt,h0]
      | some q=>simp [Builtin.len_,hval,run_underlying hu,goInt]
     rw [this]
     rfl
    ·rename_i e hu hd
     have ea : args = #[x] := by rw [← Array.toArray_toList (xs := args),ha]
     have et : argTypes = #[t] := by rw [← Array.toArray_toList (xs := argTypes),ht]
     subst ea; subst et
     refine lenV_spec (ty := type) g hu (ev x) fun v hr=>.inl ?_
     simp only [execOp,evn,resolve,invoke,builtin,Sem.run_bind,Sem.run_pure,Result.andThen_ok,List.map_toArray,List.map_cons,List.map_nil,hr]
    ·trivial
   ·rename_i x t ha ht
    split
    ·rename_i e hu hx
     refine right_val g fun _=>⟨.inl ?_,by simp [SV.Ok]⟩
     have ea : args = #[x] := by rw [← Array.toArray_toList (xs := args),ha]
     have et : argTypes = #[t] := by rw [← Array.toArray_toList (xs := argTypes),ht]
     subst ea; subst et
     simp only [execOp,evn,resolve,invoke,builtin,Sem.run_bind,Sem.run_pure,Result.andThen_ok,List.map_toArray,List.map_cons,List.map_nil,hx,SV.den]
     simp [Builtin.cap_,run_underlying hu,goInt]
    ·trivial
   ·rename_i s x t t' ha ht
    have h := appR_spec (P := P) g hok hk s x t t' type
    have ea : args = #[s,x] := by rw [← Array.toArray_toList (xs := args),ha]
    have et : argTypes = #[t,t'] := by rw [← Array.toArray_toList (xs := argTypes),ht]
    subst ea; subst et
    have hkey : ∀ v w',(Builtin.append_ #[t,t'] type #[(ev s).den E,(ev x).den E]).run P w = .ok v w' →
      RunsTo P a ⟨dst,.call ⟨.builtin .append,#[s,x],#[t,t']⟩,type,pos,after,guard⟩ w v w' := by
     intro v w' hr
     left
     simp only [execOp,evn,resolve,invoke,builtin,Sem.run_bind,Sem.run_pure,Result.andThen_ok,List.map_toArray,List.map_cons,List.map_nil,hr]
    revert h
    cases appR P ev m key s x t t' with
    | val ps v m'=>exact fun (h : OpR.Right _ _ _ _ _ _ _ _) hp=>by obtain ⟨w',E',H',h1,h2⟩ := h hp; exact ⟨w',E',H',hkey _ _ h1,h2⟩
    | all ps f=>exact fun (h : OpR.Right _ _ _ _ _ _ _ _) hp=>by obtain ⟨hs,w',E',H',h1,h2⟩ := h hp; exact ⟨hs,w',E',H',hkey _ _ h1,h2⟩
    | bad=>exact fun _=>trivial
   ·rename_i x t ha ht
    split
    ·rename_i ps v m' hv
     intro hp
     have ea : args = #[x] := by rw [← Array.toArray_toList (xs := args),ha]
     have et : argTypes = #[t] := by rw [← Array.toArray_toList (xs := argTypes),ht]
     subst ea; subst et
     obtain ⟨w',h1,h2,h3,h4⟩ := clrR_spec (ty := type) g hv hp
     refine ⟨w',E,H,.inl ?_,Agree.refl _ _,HLe.refl _,h2,h3,h4 key⟩
     simp only [execOp,evn,resolve,invoke,builtin,Sem.run_bind,Sem.run_pure,Result.andThen_ok,List.map_toArray,List.map_cons,List.map_nil,h1]
    ·trivial
   ·rename_i _ x y ha
    split
    ·rename_i k a' k' b' hx hy
     refine right_val g fun _=>⟨.inl ?_,by simp [SV.Ok]⟩
     have ea : args = #[x,y] := by rw [← Array.toArray_toList (xs := args),ha]
     subst ea
     simp only [execOp,evn,resolve,invoke,builtin,Sem.run_bind,Sem.run_pure,Result.andThen_ok,List.map_toArray,List.map_cons,List.map_nil,hx,hy,SV.den,run_max_int2]
    ·trivial
   ·rename_i _ x y ha
    split
    ·rename_i k a' k' b' hx hy
     refine right_val g fun _=>⟨.inl ?_,by simp [SV.Ok]⟩
     have ea : args = #[x,y] := by rw [← Array.toArray_toList (xs := args),ha]
     subst ea
     simp only [execOp,evn,resolve,invoke,builtin,Sem.run_bind,Sem.run_pure,Result.andThen_ok,List.map_toArray,List.map_cons,List.map_nil,hx,hy,SV.den,run_min_int2]
    ·trivial
   ·trivial
  ·trivial
end
end Sx
end
noncomputable section
namespace Sx
open Go RowKit
def RoundTo (P : Program) (m : Machine) (b : Frame) (K : List Item) (cs : List Frame) (a : Act) (w : World) (e : Bool) : Prop :=
 match e with
 | true=>Steps P m (lone (b.atR a K) cs w)
 | false=>∃ k,Steps P m (lone (b.atR a (.code .ret :: k)) cs w)
def rv (e : Bool) (T : Array Value) : Value := .tuple #[.bool e,.tuple T]
def Go1 (P : Program) (ro : Option (List Deferred)) (f : FuncId) (todo : List Item) (a : Act) (w : World) (R : Value → World → Prop) : Prop :=
 match ro with
 | none=>∀ (b : Frame) (cs : List Frame),b.fn = f → b.kind = .normal → b.roundOf = none →
  ∃ v w' fr,R v w' ∧ Steps P (lone (b.atR a todo) cs w) (lone fr cs w') ∧ fr.fn = f ∧ fr.leaving P w' (.returned v)
 | some ds=>∀ (b : Frame) (K : List Item) (cs : List Frame),b.fn = f →
  ∃ e T w',R (rv e T) w' ∧ RoundTo P (lone (b.atR a (todo ++ K)) cs w) b K cs ⟨T,ds⟩ w' e

theorem RoundTo.of_steps {P : Program} {m m' : Machine} {b : Frame} {K : List Item} {cs : List Frame} {a : Act} {w : World} {e : Bool} (h : Steps P m m') (g : RoundTo P m' b K cs a w e) : RoundTo P m b K cs a w e := by
 cases e with
 | true=>exact h.trans g
 | false=>obtain ⟨k,hk⟩ := g; exact ⟨k,h.trans hk⟩
def marksOf (l : List Nat) : List Deferred := l.map fun D=>{ target := .collected D,args := #[] }
def takeW : List Nat → World → World
 | [],w=>w
 | D :: r,w=>takeW r (w.putObj D (.deferred none))

section
variable {P : Program} {f : FuncId} {a a' : Act} {w w' : World} {R : Value → World → Prop} {t t' : List Item} {ro : Option (List Deferred)}

theorem Go1.steps (h : ∀ (b : Frame) cs K,b.fn = f → Steps P (lone (b.atR a (t ++ K)) cs w) (lone (b.atR a' (t' ++ K)) cs w')) (g : Go1 P ro f t' a' w' R) : Go1 P ro f t a w R := by
 cases ro with
 | none =>
  intro b cs hb hk hr
  obtain ⟨v,w2,fr,h1,h2,h3⟩ := g b cs hb hk hr
  have := h b cs [] hb
  simp only [List.append_nil] at this
  exact ⟨v,w2,fr,h1,this.trans h2,h3⟩
 | some ds =>
  intro b K cs hb
  obtain ⟨e,a2,w2,h1,h2⟩ := g b K cs hb
  exact ⟨e,a2,w2,h1,.of_steps (h b cs K hb) h2⟩

theorem Go1.step (h : ∀ (b : Frame) cs K,step P (lone (b.atR a (t ++ K)) cs w) = .next (lone (b.atR a' (t' ++ K)) cs w')) (g : Go1 P ro f t' a' w' R) : Go1 P ro f t a w R :=
 Go1.steps (fun b cs K _=>.one (h b cs K)) g

theorem step_mark {fr : Frame} {cs : List Frame} {D : Nat} {args : Array Value} {ds : List Deferred} (hm : fr.mode = .returning) (hd : fr.defers = { target := .collected D,args := args } :: ds) (hK : w.heap[D]? = some (.deferred (some []))) :
  Go.step P (lone fr cs w) = .next (lone { fr with defers := ds } cs (w.putObj D (.deferred none))) :=
 step_lone_go (by simp [stepG,unwind,hm,hd,Sem.runT_eq,run_takeDeferred hK])

theorem heap_putObj (D : Nat) (o : Obj) (w : World) (b : Nat) (h : b ≠ D) : (w.putObj D o).heap[b]? = w.heap[b]? := by
 simp [World.putObj,Array.getElem?_setIfInBounds_ne (Ne.symm h)]
theorem steps_marks : ∀ (l : List Nat) (w : World) (fr : Frame) (cs : List Frame),l.Nodup → (∀ D,D ∈ l → w.heap[D]? = some (.deferred (some []))) → fr.mode = .returning → fr.defers = marksOf l →
  Steps P (lone fr cs w) (lone { fr with defers := [] } cs (takeW l w))
 | [],w,fr,cs,_,_,_,hd=>by
  have : { fr with defers := [] } = fr := by cases fr; simp only [marksOf,List.map_nil] at hd; subst hd; rfl
  rw [this]; exact .refl _ _
 | D :: r,w,fr,cs,hn,hl,hm,hd=>by
  rw [List.nodup_cons] at hn
  refine .head (step_mark (ds := marksOf r) hm hd (hl D List.mem_cons_self)) ?_
  exact steps_marks r (w.putObj D (.deferred none)) { fr with defers := marksOf r } cs hn.2 (fun D' h'=>by rw [heap_putObj _ _ _ _ (fun e=>hn.1 (by rw [← e]; exact h'))]; exact hl D' (List.mem_cons_of_mem _ h')) hm rfl

theorem Go1.ret {fn : Func} {v : Value} {c : List Item} {l : List Nat} (hf : P.funcs[f]? = some fn) (hd : a.defers = marksOf l) (hn : l.Nodup) (hl : ∀ D,D ∈ l → w.heap[D]? = some (.deferred (some []))) (hr : (results fn a.tmps).run P (takeW l w) = .ok v (takeW l w)) (hR : R v (takeW l w)) :
  Go1 P none f (.code .ret :: c) a w R := by
 intro b cs hb hk hro
 exact ⟨v,takeW l w,_,hR,.head (stepR_ret hro) (steps_marks l w _ cs hn hl rfl hd),hb,rfl,rfl,hk,fn,by rw [← hf]; exact congrArg _ hb,hr⟩

theorem Go1.fin {fn : Func} {v : Value} {l : List Nat} (hf : P.funcs[f]? = some fn) (hd : a.defers = marksOf l) (hn : l.Nodup) (hl : ∀ D,D ∈ l → w.heap[D]? = some (.deferred (some []))) (hr : (results fn a.tmps).run P (takeW l w) = .ok v (takeW l w)) (hR : R v (takeW l w)) :
  Go1 P none f [] a w R := by
 intro b cs hb hk hro
 exact ⟨v,takeW l w,_,hR,.head (stepR_end hro) (steps_marks l w _ cs hn hl rfl hd),hb,rfl,rfl,hk,fn,by rw [← hf]; exact congrArg _ hb,hr⟩
def Qk (P : Program) (ro : Option (List Deferred)) (f : FuncId) (todo : List Item) (R : Value → World → Prop) : Exit → Act → World → Prop :=
 fun e a w=>e = .normal ∧ Go1 P ro f todo a w R
def calmOps (ops : Array Oper) : Bool := ops.toList.all fun o=>match o.op with
 | .defer _=>false
 | _=>true

theorem semAt_calm {ops : Array Oper} (h : calmOps ops = true) {i : Nat} {o : Oper} (ho : ops[i]? = some o) (r : Option Nat) (ρ : Operand → Value) : Oper.semAt r ρ o = execOp ρ o := by
 refine Oper.semAt_eq r ρ o fun c hc=>?_
 have hm : o ∈ ops.toList := by
  obtain ⟨hi,rfl⟩ := Array.getElem?_eq_some_iff.1 ho
  simp
 have := List.all_eq_true.1 h o hm
 rw [hc] at this
 cases this

theorem ops_part {ops : Array Oper} (hcalm : calmOps ops = true) {T : Act → World → Prop} (l more : List Nat) :
  ∀ (a : Act) (w : World),wpOps P ops (fun e a w=>e = .normal ∧ T a w) l a w → ∀ (b : Frame) (k : List Item) (cs : List Frame),
   ∃ a' w',T a' w' ∧ Steps P (lone (b.atR a (.inRegion ops (l ++ more) :: k)) cs w) (lone (b.atR a' (.inRegion ops more :: k)) cs w') := by
 induction l with
 | nil=>exact fun a w h b k cs=>⟨a,w,h.2,.refl _ _⟩
 | cons i rest ih =>
  intro a w h b k cs
  rw [List.cons_append]
  simp only [wpOps] at h
  cases ho : ops[i]? with
  | none =>
   simp only [ho] at h
   obtain ⟨a',w',hq,harr⟩ := ih a w h b k cs
   have hs := stepR_op_skip (P := P) (b := b) (a := a) (k := k) (cs := cs) (w := w) (ops := ops) (i := i) (rest := rest ++ more) (by simp [ho])
   simp only [ho,Option.bind_none,Act.put] at hs
   exact ⟨a',w',hq,.head hs harr⟩
  | some o =>
   simp only [ho] at h
   by_cases hw : Region.wanted o (yielded ops a.tmps) = true
   ·simp only [hw,if_true] at h
    rcases h with h | ⟨_,a₀,w₀,hq,_⟩
    case inr=>cases hq
    simp only [Oper.wp,Oper.upon] at h
    have hg := stepGR_op (P := P) (b := b) (k := k) (cs := cs) (w := w) (rest := rest ++ more) ho hw
    rw [semAt_calm hcalm ho] at hg
    have hfin : ∀ v,(b.atR a (.inRegion ops (i :: (rest ++ more)) :: k)).finish v = b.atR (a.put o.dst v) (.inRegion ops (rest ++ more) :: k) := by
     intro v; rw [Frame.finish_atR,ho]; rfl
    split at h
    ·rename_i v w' hr
     obtain ⟨a',w'',hq,harr⟩ := ih _ _ h b k cs
     refine ⟨a',w'',hq,.head (step_lone_go ?_) harr⟩
     rw [hg,← hfin]; simp [stepG.apply,hr]
    ·rename_i w' hr
     obtain ⟨a',w'',hq,harr⟩ := ih _ _ h b k cs
     refine ⟨a',w'',hq,.head (step_lone_go ?_) harr⟩
     rw [hg,← hfin]; simp [stepG.apply,hr]
    ·rename_i d w' hr
     obtain ⟨a',w'',hq,harr⟩ := ih _ _ h b k cs
     refine ⟨a',w'',hq,.head (step_lone_go ?_) harr⟩
     have : ({ b.atR a (.inRegion ops (i :: (rest ++ more)) :: k) with defers := d :: a.defers } : Frame).finish undef =
       b.atR ({ a with defers := d :: a.defers }.put o.dst undef) (.inRegion ops (rest ++ more) :: k) := by
      have := Frame.finish_atR b { a with defers := d :: a.defers } ops i (rest ++ more) k undef
      rw [ho] at this; exact this
     rw [hg]; simp only [stepG.apply,Sem.runT_eq,hr,GStep.bare_after]
     exact congrArg (fun fr=>GStep.go { frame := fr,callers := cs,status := .running,dying := none } w') this
    ·rename_i f args w' hr
     obtain ⟨e,w'',fr,hR,hsteps,_,hleave⟩ := h (b.atR a (.inRegion ops (i :: (rest ++ more)) :: k) :: cs)
     have henter : Go.step P (lone (b.atR a (.inRegion ops (i :: (rest ++ more)) :: k)) cs w) =
       .next (lone (Frame.enter P f args .normal) (b.atR a (.inRegion ops (i :: (rest ++ more)) :: k) :: cs) w') :=
      step_lone_go (by rw [hg]; simp [stepG.apply,hr,Frame.atR])
     cases e with
     | returned v =>
      obtain ⟨a',w₃,hq,harr⟩ := ih _ _ hR b k cs
      refine ⟨a',w₃,hq,.head henter (Steps.trans hsteps (.head ?_ harr))⟩
      rw [← hfin]; exact step_leave_returned hleave
     | panicked chain=>cases hR.1
     | outgrown=>obtain ⟨_,_,hq,_⟩ := hR; cases hq
    ·rename_i row args w' hr
     obtain ⟨v,w'',hR,hsteps⟩ := h (b.atR a (.inRegion ops (i :: (rest ++ more)) :: k)) cs
     have henter : Go.step P (lone (b.atR a (.inRegion ops (i :: (rest ++ more)) :: k)) cs w) =
       .next (lone (Frame.ofRow P row args .normal) (b.atR a (.inRegion ops (i :: (rest ++ more)) :: k) :: cs) w') :=
      step_lone_go (by rw [hg]; simp [stepG.apply,hr,Frame.atR])
     obtain ⟨a',w₃,hq,harr⟩ := ih _ _ hR b k cs
     refine ⟨a',w₃,hq,.head henter (Steps.trans hsteps ?_)⟩
     rw [hfin]; exact harr
    ·rename_i v w' hr
     cases h.1
    ·exact h.elim
   ·simp only [hw,if_false,Bool.false_eq_true] at h
    obtain ⟨a',w',hq,harr⟩ := ih _ _ h b k cs
    have hs := stepR_op_skip (P := P) (b := b) (a := a) (k := k) (cs := cs) (w := w) (ops := ops) (i := i) (rest := rest ++ more)
     (by simp [ho]; simpa using hw)
    simp only [ho,Option.bind_some] at hs
    exact ⟨a',w',hq,.head hs harr⟩

theorem ops_atR {ops : Array Oper} (hcalm : calmOps ops = true) {T : Act → World → Prop} (l : List Nat)
  (a : Act) (w : World) (h : wpOps P ops (fun e a w=>e = .normal ∧ T a w) l a w) (b : Frame) (k : List Item) (cs : List Frame) :
   ∃ a' w',T a' w' ∧ Steps P (lone (b.atR a (.inRegion ops l :: k)) cs w) (lone (b.atR a' k) cs w') := by
 obtain ⟨a',w',h1,h2⟩ := ops_part hcalm l [] a w h b k cs
 rw [List.append_nil] at h2
 exact ⟨a',w',h1,h2.trans (.one stepR_region_end)⟩

theorem Go1.ops {ops : Array Oper} (hcalm : calmOps ops = true) {l : List Nat} (h : wpOps P ops (Qk P ro f t R) l a w) : Go1 P ro f (.inRegion ops l :: t) a w R := by
 have key := ops_atR hcalm (T := fun a w=>Go1 P ro f t a w R) l a w h
 cases ro with
 | none =>
  intro b cs hb hk hr
  obtain ⟨a',w',hg,hs⟩ := key b t cs
  obtain ⟨v,w2,fr,h1,h2,h3⟩ := hg b cs hb hk hr
  exact ⟨v,w2,fr,h1,hs.trans h2,h3⟩
 | some ds =>
  intro b K cs hb
  obtain ⟨a',w',hg,hs⟩ := key b (t ++ K) cs
  obtain ⟨e,a2,w2,h1,h2⟩ := hg b K cs hb
  exact ⟨e,a2,w2,h1,.of_steps hs h2⟩

theorem Go1.region {id : Nat} {ops : Array Oper} (hcalm : calmOps ops = true) (h : wpOps P ops (Qk P ro f t R) (List.range ops.size) a w) : Go1 P ro f (.code (.region id ops false) :: t) a w R :=
 Go1.step (fun _ _ _=>stepR_region) (Go1.ops hcalm h)

theorem Go1.draw {id : Nat} {ops : Array Oper} (hm : P.follows .mixedOrders = true) (hcalm : calmOps ops = true)
  (h : wpAny P .any ops (Qk P ro f t R) ops.size (Array.replicate ops.size false) a w.drew) : Go1 P ro f (.code (.region id ops true) :: t) a w R := by
 have key : ∀ tt,Go1 P ro f (.inRegion ops (Region.schedule (P.follows .mixedOrders) ops tt) :: t) a w.drew R := fun tt=>by
  refine Go1.ops hcalm ?_
  simp only [Region.schedule,hm,Bool.true_or,if_true]
  exact wpAny_sound ops.size tt _ a _ h
 refine Go1.steps (fun b cs K hb=>.one ?_) (key (w.tape w.drawn (.order f id)))
 rw [← hb]
 exact stepR_region_draw

theorem Go1.mono {R' : Value → World → Prop} (h : Go1 P ro f t a w R) (hr : ∀ v w,R v w → R' v w) : Go1 P ro f t a w R' := by
 cases ro with
 | none =>
  intro b cs hb hk hro
  obtain ⟨v,w2,fr,h1,h2⟩ := h b cs hb hk hro
  exact ⟨v,w2,fr,hr _ _ h1,h2⟩
 | some ds =>
  intro b K cs hb
  obtain ⟨e,a2,w2,h1,h2⟩ := h b K cs hb
  exact ⟨e,a2,w2,hr _ _ h1,h2⟩

theorem exitTo_append {id : Nat} : ∀ {k k' : List Item} (K : List Item),exitTo id k = some k' → exitTo id (k ++ K) = some (k' ++ K)
 | [],_,_,h=>by simp [exitTo] at h
 | x :: k,k',K,h=>by
  cases x <;> simp only [List.cons_append,exitTo] at h ⊢ <;> try exact exitTo_append K h
  split at h
  ·rename_i h1; rw [if_pos h1]; cases h; rfl
  ·rename_i h1; rw [if_neg h1]; exact exitTo_append K h
theorem gotoIn_append {l : Nat} : ∀ {k k' : List Item} (K : List Item),gotoIn l k = some k' → gotoIn l (k ++ K) = some (k' ++ K)
 | [],_,_,h=>by simp [gotoIn] at h
 | x :: k,k',K,h=>by
  cases x <;> simp only [List.cons_append,gotoIn] at h ⊢ <;> try exact gotoIn_append K h
  split at h
  ·cases h; rfl
  ·exact gotoIn_append K h
theorem Go1.headed {b : Code} {k : List Item} (g : Go1 P ro f (.inLoop b :: k) a w R) : Go1 P ro f (.code (.loop b) :: k) a w R := by
 refine Go1.step (t' := .code b :: .inLoop b :: k) (fun fr cs K=>stepR_loop) ?_
 cases ro with
 | none =>
  intro fr cs hb hk hr
  obtain ⟨v,w2,fr2,h1,⟨n,hn⟩,h3⟩ := g fr cs hb hk hr
  cases n with
  | zero =>
   simp only [runN] at hn
   obtain ⟨_,hl⟩ := h3
   have : fr2 = fr.atR a (.inLoop b :: k) := by
    simp only [Stepped.next.injEq,lone,Machine.mk.injEq] at hn
    have := hn.2.1
    simp at this
    exact this.symm
   subst this
   exact absurd hl.1 (by simp [Frame.atR])
  | succ n =>
   simp only [runN] at hn
   rw [stepR_inLoop] at hn
   exact ⟨v,w2,fr2,h1,⟨n,hn⟩,h3⟩
 | some ds =>
  intro fr K cs hb
  obtain ⟨e,a2,w2,h1,h2⟩ := g fr K cs hb
  have key : ∀ (todo : List Item),todo ≠ .inLoop b :: (k ++ K) → Steps P (lone (fr.atR a (.inLoop b :: (k ++ K))) cs w) (lone (fr.atR ⟨a2,ds⟩ todo) cs w2) → Steps P (lone (fr.atR a (.code b :: .inLoop b :: (k ++ K))) cs w) (lone (fr.atR ⟨a2,ds⟩ todo) cs w2) := by
   intro todo hne ⟨n,hn⟩
   cases n with
   | zero =>
    simp only [runN] at hn
    simp only [Stepped.next.injEq,lone,Machine.mk.injEq] at hn
    have := hn.2.1
    simp [Frame.atR] at this
    exact absurd this.2.1.symm hne
   | succ n =>
    simp only [runN] at hn
    rw [stepR_inLoop] at hn
    exact ⟨n,hn⟩
  refine ⟨e,a2,w2,h1,?_⟩
  cases e with
  | true =>
   refine key K (fun h=>?_) h2
   have := congrArg List.length h
   simp at this
   omega
  | false =>
   obtain ⟨k1,h2⟩ := h2
   exact ⟨k1,key _ (fun h=>by cases h) h2⟩

theorem takeW_heap : ∀ (l : List Nat) (w : World) (b : Nat),b ∉ l → (takeW l w).heap[b]? = w.heap[b]?
 | [],_,_,_=>rfl
 | D :: r,w,b,h=>by
  simp only [List.mem_cons,not_or] at h
  rw [takeW,takeW_heap r _ b h.2,heap_putObj _ _ _ _ h.1]
theorem takeW_str : ∀ (l : List Nat) (w : World),(takeW l w).os = w.os ∧ (takeW l w).tape = w.tape ∧ (takeW l w).output = w.output ∧ (takeW l w).heap.size = w.heap.size
 | [],_=>⟨rfl,rfl,rfl,rfl⟩
 | D :: r,w=>by
  obtain ⟨h1,h2,h3,h4⟩ := takeW_str r (w.putObj D (.deferred none))
  exact ⟨h1,h2,h3,by rw [takeW,h4]; simp [World.putObj]⟩
theorem Good.take {C : Ctx} {m : Mem} {E : Env} {H : HV} (g : Good C m E H w) : Good C.fin m E H (takeW C.x.df w) := by
 obtain ⟨s1,s2,s3,s4⟩ := takeW_str C.x.df w
 have hD : ∀ D,D ∈ C.x.df → w.heap[D]? = some (.deferred (some [])) := fun D hD=>(g.fix.fx D _ (g.fix.mark D hD).2).1
 have hheap : ∀ b,(∀ q,w.heap[b]? = some q → stillO q = false) → (takeW C.x.df w).heap[b]? = w.heap[b]? := fun b hb=>takeW_heap _ _ _ fun h=>by
  have := hb _ (hD b h); cases this
 have hcell : ∀ b o v,H b o = some v → (takeW C.x.df w).heap[b]? = w.heap[b]? := fun b o v h=>hheap b fun q hq=>by
  have := g.cell b o v h
  simp only [World.cell?,hq,Option.isSome_none,Bool.false_eq_true,if_false] at this
  cases q <;> first | rfl | (simp at this)
 have hown : ∀ k o,(k,o) ∈ m → o.Lies → (takeW C.x.df w).heap[E.b k]? = w.heap[E.b k]? := fun k o h hl=>hheap _ fun q hq=>(g.own k o h).moves hl hq
 refine ⟨⟨s1.trans g.below.os,s2.trans g.below.tape,s3.trans g.below.output,by rw [s4]; exact g.below.size,fun j hj=>?_⟩,g.ext,g.fresh,fun b o v h=>?_,fun k o h=>?_,g.keys,g.apart,fixOk_plain _ _ _⟩
 ·rw [takeW_heap _ _ _ fun h=>by have := (g.fix.mark j h).1; exact absurd (show j < C.w0.heap.size from hj) (by omega)]
  exact g.below.block j hj
 ·rw [cell_of_heap (w := w) (hcell b o v h)]; exact g.cell b o v h
 ·have h1 : OOk C E H (takeW C.x.df w) k o := (g.own k o h).keep fun hl=>hown k o h hl
  cases o <;> exact h1
theorem calls_of_go1 {fn : Func} {c : Code} {args : Array Value} (hf : P.funcs[f]? = some fn) (hb : fn.body = some c)
  (h : Go1 P none f [.code c] { tmps := args ++ Array.replicate (fn.ntmps - args.size) undef,defers := [] } w R) :
  Calls P f args w (fun e w'=>∃ v,e = .returned v ∧ R v w') := by
 intro cs
 let b : Frame := { (default : Frame) with fn := f,kind := .normal,roundOf := none }
 have henter : Frame.enter P f args .normal = b.atR { tmps := args ++ Array.replicate (fn.ntmps - args.size) undef,defers := [] } [.code c] := by
  simp [Frame.enter,Frame.atR,hf,hb,b]
 obtain ⟨v,w',fr,hR,hs,h1,h2⟩ := h b cs rfl rfl rfl
 rw [← henter] at hs
 exact ⟨.returned v,w',fr,⟨v,rfl,hR⟩,hs,h1,h2⟩
end

structure CFrm where
 fn : FuncId
 ri : Option (Array Oper × List Nat)
 await : Option Tmp
 todo : List Item
 act : Act
 ro : Option (List Deferred)
def CFrm.run (P : Program) (c : CFrm) (w : World) (R : Value → World → Prop) : Prop :=
 match c.ri with
 | none=>Go1 P c.ro c.fn c.todo c.act w R
 | some (ops,l)=>wpOps P ops (Qk P c.ro c.fn c.todo R) l c.act w

def kindOf (X : CtxX) : Option (List Deferred) :=
 match X.rd with
 | false=>none
 | true=>some (marksOf X.df)
def CFrm.low (X : CtxX) (c : CFrm) : CFrm := ⟨c.fn,c.ri,c.await,c.todo,⟨c.act.tmps,marksOf X.df⟩,kindOf X⟩
def StkRun (P : Program) (X : CtxX) : CFrm → List CFrm → World → (Value → World → Prop) → Prop
 | c,[],w,R=>(c.low X).run P w R
 | c,g :: r,w,R=>c.run P w fun v w'=>StkRun P X { g with act := g.act.put g.await v } r w' R

def restOf (P : Program) (X : CtxX) (r : List CFrm) (R : Value → World → Prop) : Value → World → Prop :=
 match r with
 | []=>R
 | g :: r=>fun v w'=>StkRun P X { g with act := g.act.put g.await v } r w' R
structure SFrm where
 fn : FuncId
 ri : Option (Array Oper × List Nat)
 await : Option Tmp
 todo : List Item
 tmps : List SV

def SFrm.dn (ds : List Deferred) (ro : Option (List Deferred)) (E : Env) (s : SFrm) : CFrm := ⟨s.fn,s.ri,s.await,s.todo,⟨(SV.denL E s.tmps).toArray,ds⟩,ro⟩
def SFrm.den (E : Env) (s : SFrm) : CFrm := ⟨s.fn,s.ri,s.await,s.todo,⟨(SV.denL E s.tmps).toArray,[]⟩,none⟩
def dsOf (X : CtxX) : List SFrm → List Deferred
 | []=>marksOf X.df
 | _ :: _=>[]
def roOf (X : CtxX) : List SFrm → Option (List Deferred)
 | []=>kindOf X
 | _ :: _=>none

theorem stepR_scope {P : Program} {b : Frame} {a : Act} {k : List Item} {cs : List Frame} {w : World} {c : Code} : step P (lone (b.atR a (.code (.scope c) :: k)) cs w) = .next (lone (b.atR a (.code c :: .inScope c :: k)) cs w) :=
 step_lone_go (by simp [stepG,stepG.exec,Frame.atR])
theorem stepR_inScope {P : Program} {b : Frame} {a : Act} {k : List Item} {cs : List Frame} {w : World} {c : Code} : step P (lone (b.atR a (.inScope c :: k)) cs w) = .next (lone (b.atR a k) cs w) :=
 step_lone_go (by simp [stepG,stepG.exec,Frame.atR])

theorem stkRun_eq (P : Program) (X : CtxX) (E E' : Env) (s : SFrm) (r : List SFrm) (w : World) (R : Value → World → Prop) :
  StkRun P X (s.den E) (r.map (SFrm.den E')) w R = (s.dn (dsOf X r) (roOf X r) E).run P w (restOf P X (r.map (SFrm.den E')) R) := by
 cases r <;> rfl

structure Conf where
 top : SFrm
 rest : List SFrm
 mem : Mem

def Conf.Ok (H : HV) (c : Conf) : Prop := SV.OkL H c.top.tmps ∧ ∀ f,f ∈ c.rest → SV.OkL H f.tmps
def Runs (P : Program) (C : Ctx) (c : Conf) (R : Value → World → Prop) : Prop :=
 ∀ E H w,Good C c.mem E H w → c.Ok H → StkRun P C.x (c.top.den E) (c.rest.map (SFrm.den E)) w R

inductive Tree where
 | leaf (c : Conf)
 | ret (v : SV)
 | br (b : Bool) (t f : Tree)
 | need (p : Prop) (t : Tree)
 | all (f : (Nat → Nat → D) → Tree)
 | stuck

def Tree.holds (P : Program) (C : Ctx) (R : Value → World → Prop) : Tree → Prop
 | .leaf c=>Runs P C c R
 | .ret v=>C.x.rd = false ∧ ∀ E H w,Good C.fin [] E H w → v.Ok H → R (v.den E) w
 | .br b t f=>(b = true → t.holds P C R) ∧ (b = false → f.holds P C R)
 | .need p t=>p ∧ t.holds P C R
 | .all f=>∀ hs,(f hs).holds P C R
 | .stuck=>False

def needs : List Prop → Tree → Tree
 | [],t=>t
 | p :: r,t=>.need p (needs r t)

theorem needs_holds {P : Program} {C : Ctx} {R : Value → World → Prop} : ∀ {ps : List Prop} {t : Tree},(needs ps t).holds P C R → (∀ p,p ∈ ps → p) ∧ t.holds P C R
 | [],t,h=>⟨by simp,h⟩
 | p :: r,t,h=>by
  obtain ⟨h1,h2⟩ := h
  obtain ⟨h3,h4⟩ := needs_holds h2
  refine ⟨fun q hq=>?_,h4⟩
  rcases List.mem_cons.1 hq with rfl | hq
  ·exact h1
  ·exact h3 q hq
abbrev Ctr := List SV → Nat → Mem → OpR

def CallRight (P : Program) (f : FuncId) (r : OpR) (C : Ctx) (m : Mem) (key : Nat) (E : Env) (H : HV) (w : World) (args : List SV) : Prop :=
 match r with
 | .val ps v m'=>(∀ p,p ∈ ps → p) → Calls P f (SV.denL E args).toArray w fun e w' =>
   ∃ E' H',e = .returned (v.den E') ∧ Agree key E E' ∧ HLe H H' ∧ Good C m' E' H' w' ∧ v.Ok H' ∧ Keeps m E H w key m' E' H' w'
 | .all ps g=>(∀ p,p ∈ ps → p) → Calls P f (SV.denL E args).toArray w fun e w' =>
   ∃ hs E' H',e = .returned ((g hs).1.den E') ∧ Agree key E E' ∧ HLe H H' ∧ Good C (g hs).2 E' H' w' ∧ (g hs).1.Ok H' ∧ Keeps m E H w key (g hs).2 E' H' w'
 | .bad=>True
def roM : Mem → Bool
 | []=>true
 | (_,.cells ..) :: r=>roM r
 | (_,.map _) :: r=>roM r
 | (_,.mapD ..) :: r=>roM r
 | _=>false
def keysEq : Mem → Mem → Bool
 | [],[]=>true
 | (a,_) :: r,(b,_) :: s=>a == b && keysEq r s
 | _,_=>false
def CtrRO (c : Ctr) : Prop := ∀ args key m,roM m = true → match c args key m with
 | .val _ _ m'=>keysEq m' m = true → m' = m
 | .all _ g=>∀ hs,keysEq (g hs).2 m = true → (g hs).2 = m
 | .bad=>True

def CtrOk (P : Program) (f : FuncId) (c : Ctr) : Prop :=
 (∃ fn,P.funcs[f]? = some fn ∧ fn.body.isSome = true ∧ (fn.name == "runtime.NumGoroutine") = false) ∧
 (∀ C E H w args key m,Good C m E H w → SV.OkL H args → Mem.has key m = false → SV.hasL key args = false → CallRight P f (c args key m) C m key E H w args) ∧
 CtrRO c

abbrev Ctrs := List (FuncId × Ctr)

def Ctrs.find (cs : Ctrs) (f : FuncId) : Option Ctr :=
 match cs with
 | []=>none
 | (g,c) :: r=>if g == f then some c else Ctrs.find r f

def Ctrs.Ok (P : Program) (cs : Ctrs) : Prop := ∀ x,x ∈ cs → CtrOk P x.1 x.2

theorem Ctrs.find_mem {cs : Ctrs} {f : FuncId} {c : Ctr} (h : cs.find f = some c) : (f,c) ∈ cs := by
 induction cs with
 | nil=>cases h
 | cons x r ih =>
  obtain ⟨g,d⟩ := x
  simp only [Ctrs.find] at h
  split at h
  ·rename_i hg; simp at hg h; subst hg; subst h; simp
  ·exact List.mem_cons_of_mem _ (ih h)

def Conf.fresh (key : Nat) (c : Conf) : Bool :=
 !Mem.has key c.mem && !SV.hasL key c.top.tmps && c.rest.all fun f=>!SV.hasL key f.tmps
inductive GR where
 | yes | no | fork (t : Nat) (b : Bool) | bad

def guardR (ops : Array Oper) (o : Oper) (tmps : List SV) : GR :=
 match o.guard with
 | none=>.yes
 | some (j,want) =>
  match (ops[j]?).bind (·.dst) with
  | none=>.bad
  | some t=>match tmps[t]? with
   | some (.lb b)=>if b == want then .yes else .no
   | some (.bool b)=>.fork t b
   | some .undef=>.no
   | _=>.bad

def putS (tmps : List SV) (dst : Option Tmp) (v : SV) : List SV :=
 match dst with
 | some d=>tmps.set d v
 | none=>tmps

def dstKey (depth : Nat) (dst : Option Tmp) : Nat :=
 match dst with
 | some d=>1000 * depth + d
 | none=>1000 * depth + 999
def resS (P : Program) (m : Mem) (tmps : List SV) : List ResultVar → Option (List SV)
 | []=>some []
 | .tmp t :: r=>match resS P m tmps r with
  | some l=>some (tmps.getD t .undef :: l)
  | none=>none
 | .cell a t :: r=>match tmps.getD a .undef with
  | .ptr k off=>match loadR P m t (.ptr k off),resS P m tmps r with
   | some ([],v),some l=>some (v :: l)
   | _,_=>none
  | _=>none

def one? : List SV → SV
 | [v]=>v
 | l=>.tup l

mutual
def closeV (m : Mem) : SV → SV
 | .vec k=>match m.get k with
  | some (.pub d)=>.dat d
  | _=>.vec k
 | .agg l=>.agg (closeL m l)
 | .tup l=>.tup (closeL m l)
 | v=>v
def closeL (m : Mem) : List SV → List SV
 | []=>[]
 | x :: r=>closeV m x :: closeL m r
end

mutual
def leaves : SV → List SV
 | .agg l=>leavesL l
 | .tup l=>leavesL l
 | v=>[v]
def leavesL : List SV → List SV
 | []=>[]
 | x :: r=>leaves x ++ leavesL r
end
def calleeOf (ev : Operand → SV) : Callee → Option (FuncId × List SV × List SV)
 | .value x=>match ev x with
  | .fn f a c=>some (f,a,c)
  | _=>none
 | _=>none

mutual
def SV.jk (n : Nat) : SV → Bool
 | .junk i=>decide (n ≤ i)
 | .agg l=>SV.jkL n l
 | .tup l=>SV.jkL n l
 | .fn _ a c=>SV.jkL n a || SV.jkL n c
 | _=>false
def SV.jkL (n : Nat) : List SV → Bool
 | []=>false
 | x :: r=>SV.jk n x || SV.jkL n r
end

def OBlk.jk (n : Nat) : OBlk → Bool
 | .cells _ cs=>SV.jkL n cs
 | .map es=>es.any fun e=>e.1.jk n || e.2.jk n
 | _=>false
def maskT (n : Nat) (live : List Nat) : Nat → List SV → List SV
 | _,[]=>[]
 | t,v :: r=>(if live.contains t then v else .junk (n + t)) :: maskT n live (t + 1) r
def keptOk (n : Nat) (live : List Nat) : Nat → List SV → Bool
 | _,[]=>true
 | t,v :: r=>(if live.contains t then !v.jk n else true) && keptOk n live (t + 1) r
def reachK (m : Mem) (tops : List SV) (rest : List SFrm) : Nat → List Nat → List Nat
 | 0,l=>l
 | n + 1,l =>
  reachK m tops rest n ((m.filter fun e=>Nat.ble PIN e.1 || SV.hasL e.1 tops || rest.any (fun f=>SV.hasL e.1 f.tmps) || m.any fun x=>l.contains x.1 && x.2.has e.1).map (·.1))

def forgetC (live : List Nat) (c : Conf) : Option Conf :=
 let n := 1000 * c.rest.length
 let tops := maskT n live 0 c.top.tmps
 let keys := reachK c.mem tops c.rest (c.mem.length + 1) []
 let m := c.mem.filter fun e=>keys.contains e.1
 if keptOk n live 0 c.top.tmps && m.all (fun e=>!e.2.jk n) && c.rest.all (fun f=>!SV.jkL n f.tmps) then
  some { c with top := { c.top with tmps := tops },mem := m }
 else none

def addN (x : Nat) (l : List Nat) : List Nat := if l.contains x then l else x :: l
def addNs (xs l : List Nat) : List Nat := xs.foldr addN l

def usesOp (ops : Array Oper) (o : Oper) : List Nat :=
  (o.op.operands.toList.filterMap fun | .tmp t=>some t | _=>none) ++
  (match o.guard with
   | some (g,_)=>((ops[g]?).bind (·.dst)).toList
   | none=>[])

def liveOps (ops : Array Oper) : List Oper → List Nat → List Nat
 | [],out=>out
 | o :: r,out =>
  let l := liveOps ops r out
  addNs (usesOp ops o) (match o.dst with
   | some d=>l.filter (· != d)
   | none=>l)

def exitN (id : Nat) : List (Nat × List Nat) → List Nat
 | []=>[]
 | (i,l) :: r=>if i == id then l else exitN id r

def liveC : Code → List Nat → List (Nat × List Nat) → List Nat → List Nat
 | .seq a b,out,ex,rt=>liveC a (liveC b out ex rt) ex rt
 | .cond x a b,out,ex,rt=>addNs (match x with | .tmp t=>[t] | _=>[]) (addNs (liveC a out ex rt) (liveC b out ex rt))
 | .block id b,out,ex,rt=>liveC b out ((id,out) :: ex) rt
 | .loop b,_,ex,rt=>liveC b (liveC b (liveC b [] ex rt) ex rt) ex rt
 | .exit id,_,ex,_=>exitN id ex
 | .ret,_,_,rt=>rt
 | .scope b,out,ex,rt=>liveC b out ex rt
 | .region _ ops _,out,_,_=>liveOps ops ops.toList out
 | _,out,_,_=>out

def liveI (rt : List Nat) : List Item → List Nat × List (Nat × List Nat)
 | []=>(rt,[])
 | .code c :: k=>let r := liveI rt k; (liveC c r.1 r.2 rt,r.2)
 | .inBlock id :: k=>let r := liveI rt k; (r.1,(id,r.1) :: r.2)
 | .inLoop b :: k=>let r := liveI rt k; (liveC (.loop b) r.1 r.2 rt,r.2)
 | _ :: k=>liveI rt k

def retN (P : Program) (f : FuncId) : List Nat :=
 match P.funcs[f]? with
 | some fn=>fn.results.toList.map fun | .tmp t=>t | .cell a _=>a
 | none=>[]
def fgt (P : Program) (c : Conf) : Conf :=
 match forgetC (liveI (retN P c.top.fn) c.top.todo).1 c with
 | some c'=>c'
 | none=>c
def retC (P : Program) (ih : Conf → Tree) (c : Conf) : Tree :=
 match P.funcs[c.top.fn]? with
 | none=>.stuck
 | some fn =>
  match resS P c.mem c.top.tmps fn.results.toList with
  | none=>.stuck
  | some l =>
   match c.rest with
   | []=>.ret (closeV (pubsR (leaves (one? l)) c.mem) (one? l))
   | g :: r=>ih { top := { g with tmps := putS g.tmps g.await (one? l),await := none },rest := r,mem := c.mem }
def quickOp : Op → Bool
 | .move _=>true
 | .assign _=>true
 | .pick ..=>true
 | .build ..=>true
 | .load ..=>true
 | .nilCheck _=>true
 | .binOp ..=>true
 | .unOp ..=>true
 | .convert ..=>true
 | .extract ..=>true
 | .fieldAddr ..=>true
 | .indexAddr ..=>true
 | .makeFunc ..=>true
 | .call c=>match c.callee with
  | .builtin .len=>true
  | _=>false
 | _=>false

def oprQ (P : Program) (tmps : List SV) (m : Mem) (op : Op) : Option (List Prop × SV) :=
 if quickOp op then
  match opr P (evS tmps) m 0 op with
  | .val ps v _=>some (ps,v)
  | _=>none
 else none

def outOf (r : OpR) (h : Nat → D) : Option (List Prop × SV × Mem) :=
 match r with
 | .val ps v m=>some (ps,v,m)
 | .all ps f=>some (ps,(f h).1,(f h).2)
 | .bad=>none

section
variable {β : Type _}
def natF (n : Nat) (k : Nat → β) : β :=
 match n with
 | 0=>k 0
 | m + 1=>k (m + 1)
theorem natF_eq (n : Nat) (k : Nat → β) : natF n k = k n := by cases n <;> rfl
def SV.nz0 (x : SV) (k : SV → β) : β :=
 match x with
 | .int a b=>k (.int a b)
 | .bool a=>k (.bool a)
 | .lb a=>k (.lb a)
 | .str a=>k (.str a)
 | .nils=>k .nils
 | .dat a=>k (.dat a)
 | .vec a=>natF a fun a=>k (.vec a)
 | .ptr a b=>natF a fun a=>natF b fun b=>k (.ptr a b)
 | .elt a b c=>k (.elt a b c)
 | .velt a b c d=>natF a fun a=>k (.velt a b c d)
 | .view a b c d=>natF a fun a=>k (.view a b c d)
 | .nilp=>k .nilp
 | .agg l=>k (.agg l)
 | .tup l=>k (.tup l)
 | .fn f a b=>k (.fn f a b)
 | .nilf=>k .nilf
 | .mapp a=>natF a fun a=>k (.mapp a)
 | .sl a b=>natF a fun a=>k (.sl a b)
 | .undef=>k .undef
 | .junk a=>natF a fun a=>k (.junk a)
 | .raw a=>k (.raw a)
theorem SV.nz0_eq (x : SV) (k : SV → β) : x.nz0 k = k x := by cases x <;> simp only [SV.nz0,natF_eq]

def nzL (f : SV → (SV → β) → β) (l : List SV) (k : List SV → β) : β :=
 List.rec (motive := fun _=>(List SV → β) → β) (fun k=>k []) (fun x _ ih k=>f x fun x'=>ih fun r'=>k (x' :: r')) l k
theorem nzL_eq {f : SV → (SV → β) → β} (hf : ∀ x k,f x k = k x) : ∀ (l : List SV) (k : List SV → β),nzL f l k = k l
 | [],_=>rfl
 | x :: r,k=>by
  show f x (fun x'=>nzL f r fun r'=>k (x' :: r')) = _
  rw [hf,nzL_eq hf r]

def SV.nz1 (x : SV) (k : SV → β) : β :=
 x.nz0 fun x=>match x with
 | .agg l=>nzL SV.nz0 l fun l=>k (.agg l)
 | .tup l=>nzL SV.nz0 l fun l=>k (.tup l)
 | x=>k x
theorem SV.nz1_eq (x : SV) (k : SV → β) : x.nz1 k = k x := by
 unfold SV.nz1
 rw [SV.nz0_eq]
 split
 ·rw [nzL_eq SV.nz0_eq]
 ·rw [nzL_eq SV.nz0_eq]
 ·rfl

def SV.nz2 (x : SV) (k : SV → β) : β :=
 x.nz0 fun x=>match x with
 | .agg l=>nzL SV.nz0 l fun l=>k (.agg l)
 | .tup l=>nzL SV.nz1 l fun l=>k (.tup l)
 | .fn f a b=>nzL SV.nz1 a fun a=>nzL SV.nz1 b fun b=>k (.fn f a b)
 | x=>k x
theorem SV.nz2_eq (x : SV) (k : SV → β) : x.nz2 k = k x := by
 unfold SV.nz2
 rw [SV.nz0_eq]
 split
 ·rw [nzL_eq SV.nz0_eq]
 ·rw [nzL_eq SV.nz1_eq]
 ·rw [nzL_eq SV.nz1_eq,nzL_eq SV.nz1_eq]
 ·rfl

def nzM (l : Mem) (k : Mem → β) : β :=
 List.rec (motive := fun _=>(Mem → β) → β) (fun k=>k [])
  (fun x _ ih k=>match x with
   | (j,o)=>match o with
    | .cells t cs=>natF j fun j=>nzL SV.nz1 cs fun cs=>ih fun r'=>k ((j,.cells t cs) :: r')
    | .arr e d=>natF j fun j=>ih fun r'=>k ((j,.arr e d) :: r')
    | .pub d=>natF j fun j=>ih fun r'=>k ((j,.pub d) :: r')
    | .map es=>natF j fun j=>ih fun r'=>k ((j,.map es) :: r')
    | .mapD kk ag ts d=>natF j fun j=>ih fun r'=>k ((j,.mapD kk ag ts d) :: r')) l k
theorem nzM_eq : ∀ (l : Mem) (k : Mem → β),nzM l k = k l
 | [],_=>rfl
 | (j,o) :: r,k=>by
  cases o with
  | cells t cs =>
   show natF j (fun j=>nzL SV.nz1 cs (fun cs=>nzM r fun r'=>k ((j,.cells t cs) :: r'))) = _
   rw [natF_eq,nzL_eq SV.nz1_eq,nzM_eq r]
  | arr e d =>
   show natF j (fun j=>nzM r fun r'=>k ((j,.arr e d) :: r')) = _
   rw [natF_eq,nzM_eq r]
  | pub d =>
   show natF j (fun j=>nzM r fun r'=>k ((j,.pub d) :: r')) = _
   rw [natF_eq,nzM_eq r]
  | map es =>
   show natF j (fun j=>nzM r fun r'=>k ((j,.map es) :: r')) = _
   rw [natF_eq,nzM_eq r]
  | mapD kk ag ts d =>
   show natF j (fun j=>nzM r fun r'=>k ((j,.mapD kk ag ts d) :: r')) = _
   rw [natF_eq,nzM_eq r]
def nz (c : Conf) (k : Conf → β) : β :=
 match c.top.ri with
 | none=>nzL SV.nz2 c.top.tmps fun tmps=>nzM c.mem fun mem=>k ⟨⟨c.top.fn,none,c.top.await,c.top.todo,tmps⟩,c.rest,mem⟩
 | some _=>k c
theorem nz_eq (c : Conf) (k : Conf → β) : nz c k = k c := by
 obtain ⟨⟨fn,ri,aw,todo,tmps⟩,rest,mem⟩ := c
 unfold nz
 split
 ·rename_i h
  simp only at h
  subst h
  rw [nzL_eq SV.nz2_eq,nzM_eq]
 ·rfl
def nzS (tmps : List SV) (m : Mem) (k : List SV → Mem → β) : β := nzL SV.nz2 tmps fun t=>nzM m fun m=>k t m
theorem nzS_eq (tmps : List SV) (m : Mem) (k : List SV → Mem → β) : nzS tmps m k = k tmps m := by
 unfold nzS
 rw [nzL_eq SV.nz2_eq,nzM_eq]
end

end Sx
end
noncomputable section
namespace Sx
open Go RowKit

theorem denL_set (E : Env) (l : List SV) (d : Nat) (v : SV) : SV.denL E (l.set d v) = (SV.denL E l).set d (v.den E) := by
 simp [SV.denL_eq,List.map_set]

theorem put_den (ds : List Deferred) (E : Env) (tmps : List SV) (dst : Option Tmp) (v : SV) :
  (⟨(SV.denL E tmps).toArray,ds⟩ : Act).put dst (v.den E) = ⟨(SV.denL E (putS tmps dst v)).toArray,ds⟩ := by
 cases dst with
 | none=>rfl
 | some d=>simp [Act.put,putS,denL_set]

theorem okL_putS {H : HV} {tmps : List SV} {dst : Option Tmp} {v : SV} (h : SV.OkL H tmps) (hv : v.Ok H) : SV.OkL H (putS tmps dst v) := by
 cases dst with
 | none=>exact h
 | some d =>
  simp only [putS]
  rw [SV.OkL_iff] at h ⊢
  intro x hx
  rcases List.mem_or_eq_of_mem_set hx with hx | rfl
  ·exact h x hx
  ·exact hv

theorem okL_append {H : HV} {a b : List SV} (ha : SV.OkL H a) (hb : SV.OkL H b) : SV.OkL H (a ++ b) := by
 rw [SV.OkL_iff] at *
 intro x hx
 rcases List.mem_append.1 hx with h | h
 ·exact ha x h
 ·exact hb x h

theorem hasL_append {k : Nat} {a b : List SV} (ha : SV.hasL k a = false) (hb : SV.hasL k b = false) : SV.hasL k (a ++ b) = false := by
 rw [SV.hasL_iff] at *
 intro x hx
 rcases List.mem_append.1 hx with h | h
 ·exact ha x h
 ·exact hb x h

section
variable {P : Program}

theorem guardR_spec {E : Env} {ops : Array Oper} {o : Oper} {tmps : List SV} :
  (guardR ops o tmps = .yes → Region.wanted o (yielded ops (SV.denL E tmps).toArray) = true) ∧
  (guardR ops o tmps = .no → Region.wanted o (yielded ops (SV.denL E tmps).toArray) = false) ∧
  (∀ t b,guardR ops o tmps = .fork t b → tmps[t]? = some (.bool b)) := by
 unfold guardR Region.wanted
 cases hg : o.guard with
 | none=>simp
 | some x =>
  obtain ⟨j,want⟩ := x
  simp only
  cases hd : (ops[j]?).bind (·.dst) with
  | none=>simp
  | some t =>
   simp only [yielded,hd,Option.bind_some]
   have e : ((SV.denL E tmps).toArray)[t]? = (tmps[t]?).map (SV.den E) := by simp [SV.denL_eq]
   rw [e]
   cases ht : tmps[t]? with
   | none=>simp
   | some v =>
    cases v <;> simp [SV.den,Go.undef]
    case lb b=>cases b <;> cases want <;> simp
    case bool b=>exact ht

theorem frm_op {f : FuncId} {ops : Array Oper} {i : Nat} {l : List Nat} {aw : Option Tmp} {k : List Item} {ro : Option (List Deferred)} {a : Act} {w w' : World} {o : Oper} {v : Value} {R : Value → World → Prop}
  (ho : ops[i]? = some o) (hw : Region.wanted o (yielded ops a.tmps) = true) (hr : RunsTo P a o w v w')
  (h : CFrm.run P ⟨f,some (ops,l),aw,k,a.put o.dst v,ro⟩ w' R) : CFrm.run P ⟨f,some (ops,i :: l),aw,k,a,ro⟩ w R := by
 simp only [CFrm.run] at h ⊢
 rw [wpOps_cons]
 unfold wpOp
 simp only [ho,hw,if_true]
 left
 unfold Oper.wp
 rcases hr with hr | ⟨hr,rfl⟩
 ·rw [hr]; exact h
 ·rw [hr]; exact h

theorem frm_no {f : FuncId} {ops : Array Oper} {i : Nat} {l : List Nat} {aw : Option Tmp} {k : List Item} {ro : Option (List Deferred)} {a : Act} {w : World} {o : Oper} {R : Value → World → Prop}
  (ho : ops[i]? = some o) (hw : Region.wanted o (yielded ops a.tmps) = false)
  (h : CFrm.run P ⟨f,some (ops,l),aw,k,a.put o.dst Go.undef,ro⟩ w R) : CFrm.run P ⟨f,some (ops,i :: l),aw,k,a,ro⟩ w R := by
 simp only [CFrm.run] at h ⊢
 rw [wpOps_cons]
 unfold wpOp
 simp only [ho,hw]
 exact h
theorem run_call {a : Act} {cl : Call} {E : Env} {tmps : List SV} (hev : ∀ x,a.eval x = (evS tmps x).den E) {f : FuncId} {first captured : List SV}
  (hc : calleeOf (evS tmps) cl.callee = some (f,first,captured)) {fn : Func} (hf : P.funcs[f]? = some fn) (hb : fn.body.isSome = true) (hn : (fn.name == "runtime.NumGoroutine") = false)
  {o : Oper} (ho : o.op = .call cl) (w : World) :
  (execOp a.eval o).run P w = .ok (.enter f (SV.denL E (first ++ cl.args.toList.map (evS tmps) ++ captured)).toArray) w := by
 obtain ⟨callee,args,tys⟩ := cl
 cases callee with
 | invoke r n=>simp [calleeOf] at hc
 | builtin b=>simp [calleeOf] at hc
 | value x =>
  simp only [calleeOf] at hc
  split at hc
  ·rename_i f' a' c' hx
   simp only [Option.some.injEq,Prod.mk.injEq] at hc
   obtain ⟨rfl,rfl,rfl⟩ := hc
   have evn : a.eval = fun x=>(evS tmps x).den E := funext hev
   have hb' : fn.body.isNone = false := by cases h : fn.body <;> simp_all
   unfold execOp
   simp only [ho,resolve,evn,hx,SV.den,Deferred.ofValue,Sem.run_bind,Sem.run_pure,Result.andThen_ok,invoke,callFunc,run_program,hf,hn,hb',Bool.false_eq_true,if_false]
   congr 2
   simp [SV.denL_eq,array_map_list,Function.comp_def]
  ·cases hc

theorem frm_call {f0 : FuncId} {ops : Array Oper} {i : Nat} {l : List Nat} {aw : Option Tmp} {k : List Item} {ro : Option (List Deferred)} {a : Act} {w : World} {o : Oper} {R : Value → World → Prop}
  (ho : ops[i]? = some o) (hw : Region.wanted o (yielded ops a.tmps) = true) {f : FuncId} {args : Array Value} (hr : (execOp a.eval o).run P w = .ok (.enter f args) w)
  {T : Value → World → Prop} (hc : Calls P f args w fun e w'=>∃ v,e = .returned v ∧ T v w')
  (h : ∀ v w',T v w' → CFrm.run P ⟨f0,some (ops,l),aw,k,a.put o.dst v,ro⟩ w' R) : CFrm.run P ⟨f0,some (ops,i :: l),aw,k,a,ro⟩ w R := by
 simp only [CFrm.run] at h ⊢
 rw [wpOps_cons]
 unfold wpOp
 simp only [ho,hw,if_true]
 left
 unfold Oper.wp
 rw [hr]
 refine Calls.mono hc fun e w' he=>?_
 obtain ⟨v,rfl,hT⟩ := he
 exact h v w' hT

theorem CFrm.run_mono {c : CFrm} {w : World} {R R' : Value → World → Prop} (h : c.run P w R) (hr : ∀ v w,R v w → R' v w) : c.run P w R' := by
 obtain ⟨f,ri,aw,k,a,ro⟩ := c
 cases ri with
 | none=>exact Go1.mono h hr
 | some x =>
  obtain ⟨ops,l⟩ := x
  have hq : ∀ e a w,Qk P ro f k R e a w → Qk P ro f k R' e a w := fun e a w hh=>⟨hh.1,Go1.mono hh.2 hr⟩
  simp only [CFrm.run] at h ⊢
  revert h
  induction l generalizing a w with
  | nil=>exact fun h=>hq _ _ _ h
  | cons i l ih =>
   intro h
   rw [wpOps_cons] at h ⊢
   unfold wpOp at h ⊢
   split
   ·rename_i hn; simp only [hn] at h; exact ih _ h
   ·rename_i o ho
    simp only [ho] at h
    split
    ·rename_i hw
     simp only [hw,if_true] at h
     rcases h with h | ⟨_,a',w',hq',_⟩
     ·left
      unfold Oper.wp at h ⊢
      generalize (execOp a.eval o).run P w = r at h ⊢
      cases r with
      | ok n w' =>
       cases n <;> simp only [Oper.upon] at h ⊢
       case value v=>exact ih _ h
       case skip=>exact ih _ h
       case defer d=>exact ih _ h
       case enter f args =>
        refine Calls.mono h fun e w'' he=>?_
        cases e with
        | returned v=>exact ih _ he
        | panicked ch=>exact hq _ _ _ he
        | outgrown=>obtain ⟨a',w3,hq'⟩ := he; exact ⟨a',w3,hq _ _ _ hq'⟩
       case row row args=>exact Rows.mono h fun v w'' he=>ih _ he
      | halt x w' =>
       cases x <;> simp only [Oper.upon] at h ⊢
       exact hq _ _ _ h
     ·cases hq'
    ·rename_i hw
     simp only [hw] at h
     exact ih _ h
def rsem (tmps : Array Value) : ResultVar → Sem Value
 | .tmp t=>pure (tmps.getD t Go.undef)
 | .cell a t=>do loadVar t (← asAddr (tmps.getD a Go.undef))

theorem results_eq (fn : Func) (tmps : Array Value) : results fn tmps = (do let vs ← fn.results.mapM (rsem tmps); pure (if h : vs.size = 1 then vs[0] else .tuple vs)) := rfl

theorem results_spec {C : Ctx} {m : Mem} {E : Env} {H : HV} {w : World} (g : Good C m E H w) {tmps : List SV} (hok : SV.OkL H tmps) : ∀ {rs : List ResultVar} {l : List SV},
  resS P m tmps rs = some l → (rs.mapM (rsem (SV.denL E tmps).toArray)).run P w = .ok (SV.denL E l) w ∧ SV.OkL H l
 | [],l,h=>by simp only [resS,Option.some.injEq] at h; subst h; simp [SV.denL,SV.OkL]
 | .tmp t :: r,l,h=>by
  simp only [resS] at h
  split at h
  ·rename_i l' hl
   cases h
   obtain ⟨i1,i2⟩ := results_spec g hok hl
   have e := den_evS E tmps [] (.tmp t)
   simp only [Act.eval,evS] at e
   refine ⟨?_,⟨ok_evS hok (.tmp t),i2⟩⟩
   have h0 : (rsem (SV.denL E tmps).toArray (.tmp t)).run P w = .ok ((tmps.getD t .undef).den E) w := by simp only [rsem,e,Sem.run_pure]
   simp only [List.mapM_cons,Sem.run_bind,Sem.run_pure,Result.andThen_ok,h0,i1,SV.denL]
  ·cases h
 | .cell a t :: r,l,h=>by
  simp only [resS] at h
  split at h
  ·rename_i k off hp
   split at h
   ·rename_i v l' hld hl
    cases h
    obtain ⟨i1,i2⟩ := results_spec g hok hl
    have e := den_evS E tmps [] (.tmp a)
    simp only [Act.eval,evS,hp] at e
    obtain ⟨h1,h2⟩ := loadR_spec (P := P) g (a := .ptr k off) (by simp [SV.Ok]) hld (by simp)
    refine ⟨?_,⟨h2,i2⟩⟩
    simp only [Instr.loadAt,Instr.sureAddr,SV.den,Sem.run_bind,Sem.run_pure,Result.andThen_ok] at h1
    have h0 : (rsem (SV.denL E tmps).toArray (.cell a t)).run P w = .ok (v.den E) w := by
     simp only [rsem,e,SV.den,asAddr,Sem.run_bind,Sem.run_pure,Result.andThen_ok,h1]
    simp only [List.mapM_cons,Sem.run_bind,Sem.run_pure,Result.andThen_ok,h0,i1,SV.denL]
   ·cases h
  ·cases h

theorem run_results {C : Ctx} {m : Mem} {E : Env} {H : HV} {w : World} (g : Good C m E H w) {tmps : List SV} (hok : SV.OkL H tmps) {fn : Func} {l : List SV}
  (h : resS P m tmps fn.results.toList = some l) : (results fn (SV.denL E tmps).toArray).run P w = .ok ((one? l).den E) w ∧ (one? l).Ok H := by
 obtain ⟨h1,h2⟩ := results_spec (P := P) g hok h
 have hm : (fn.results.mapM (rsem (SV.denL E tmps).toArray)).run P w = .ok (SV.denL E l).toArray w := by
  rw [Array.mapM_eq_mapM_toList]
  simp only [Sem.run_map,h1,Result.andThen_ok]
 refine ⟨?_,?_⟩
 ·rw [results_eq]
  simp only [Sem.run_bind,hm,Result.andThen_ok,Sem.run_pure]
  congr 1
  match l with
  | []=>simp [one?,SV.den,SV.denL]
  | [v]=>simp [one?,SV.denL]
  | a :: b :: r=>simp [one?,SV.den,SV.denL]
 ·match l,h2 with
  | [],_=>simp [one?,SV.Ok,SV.OkL]
  | [v],h2=>exact h2.1
  | a :: b :: r,h2=>exact h2
end
end Sx
end
noncomputable section
namespace Sx
open Go RowKit

section
variable {P : Program} {C : Ctx} {R : Value → World → Prop}

theorem fresh_spec {key : Nat} {c : Conf} (h : c.fresh key = true) : Mem.has key c.mem = false ∧ SV.hasL key c.top.tmps = false ∧ ∀ f,f ∈ c.rest → SV.hasL key f.tmps = false := by
 simp only [Conf.fresh,Bool.and_eq_true,Bool.not_eq_true',List.all_eq_true] at h
 exact ⟨h.1.1,h.1.2,h.2⟩

theorem rest_agree {key : Nat} {E E' : Env} (ha : Agree key E E') : ∀ {r : List SFrm},(∀ f,f ∈ r → SV.hasL key f.tmps = false) → r.map (SFrm.den E') = r.map (SFrm.den E)
 | [],_=>rfl
 | f :: r,h=>by
  simp only [List.map_cons]
  rw [rest_agree ha (fun g hg=>h g (List.mem_cons_of_mem _ hg))]
  congr 1
  simp [SFrm.den,SV.denL_agree ha _ (h f List.mem_cons_self)]
theorem runs_top {c c' : Conf} (h : Runs P C c' R) (hm : c'.mem = c.mem) (hr : c'.rest = c.rest) (hok : ∀ H,c.Ok H → SV.OkL H c'.top.tmps)
  (hrun : ∀ ds ro E w T,(c'.top.dn ds ro E).run P w T → (c.top.dn ds ro E).run P w T) : Runs P C c R := by
 intro E H w g ok
 have := h E H w (by rw [hm]; exact g) ⟨hok H ok,by rw [hr]; exact ok.2⟩
 rw [stkRun_eq] at this ⊢
 rw [hr] at this
 exact hrun _ _ E w _ this
def OpR.After (r : OpR) (P : Program) (C : Ctx) (R : Value → World → Prop) (c : Conf) (ops : Array Oper) (l : List Nat) (dst : Option Tmp) : Prop :=
 match r with
 | .val ps v m'=>(∀ p,p ∈ ps → p) ∧ Runs P C { c with top := { c.top with ri := some (ops,l),tmps := putS c.top.tmps dst v },mem := m' } R
 | .all ps g=>(∀ p,p ∈ ps → p) ∧ ∀ hs,Runs P C { c with top := { c.top with ri := some (ops,l),tmps := putS c.top.tmps dst (g hs).1 },mem := (g hs).2 } R
 | .bad=>False
theorem runs_right {c : Conf} {ops : Array Oper} {i : Nat} {l : List Nat} {o : Oper} {key : Nat} (hri : c.top.ri = some (ops,i :: l)) (ho : ops[i]? = some o)
  (hg : guardR ops o c.top.tmps = .yes) (hf : c.fresh key = true) {r : OpR}
  (hr : ∀ E H w,Good C c.mem E H w → c.Ok H → r.Right C c.mem w key E H (RunsTo P (c.top.den E).act o w))
  (h : r.After P C R c ops l o.dst) : Runs P C c R := by
 intro E H w g ok
 have h1 := hr E H w g ok
 obtain ⟨f1,f2,f3⟩ := fresh_spec hf
 have fin : ∀ v m' w' E' H',RunsTo P (c.top.den E).act o w (v.den E') w' → Agree key E E' → HLe H H' → Good C m' E' H' w' → v.Ok H' →
   Runs P C { c with top := { c.top with ri := some (ops,l),tmps := putS c.top.tmps o.dst v },mem := m' } R → StkRun P C.x (c.top.den E) (c.rest.map (SFrm.den E)) w R := by
  intro v m' w' E' H' hrun ha hle g' hv hR
  have h2 := hR E' H' w' g' ⟨okL_putS (SV.OkL.mono hle _ ok.1) hv,fun f hf=>SV.OkL.mono hle _ (ok.2 f hf)⟩
  rw [stkRun_eq] at h2 ⊢
  simp only at h2
  rw [rest_agree ha f3] at h2
  have e : (SFrm.dn (dsOf C.x c.rest) (roOf C.x c.rest) E' { c.top with ri := some (ops,l),tmps := putS c.top.tmps o.dst v }) = ⟨c.top.fn,some (ops,l),c.top.await,c.top.todo,(c.top.dn (dsOf C.x c.rest) (roOf C.x c.rest) E).act.put o.dst (v.den E'),roOf C.x c.rest⟩ := by
   simp only [SFrm.dn]
   rw [← put_den,SV.denL_agree ha _ f2]
  rw [e] at h2
  have e2 : c.top.dn (dsOf C.x c.rest) (roOf C.x c.rest) E = ⟨c.top.fn,some (ops,i :: l),c.top.await,c.top.todo,(c.top.dn (dsOf C.x c.rest) (roOf C.x c.rest) E).act,roOf C.x c.rest⟩ := by simp [SFrm.dn,hri]
  rw [e2]
  exact frm_op ho ((guardR_spec (E := E)).1 hg) hrun h2
 cases r with
 | val ps v m' =>
  obtain ⟨w',E',H',hrun,ha,hle,g',hv,_⟩ := h1 h.1
  exact fin v m' w' E' H' hrun ha hle g' hv h.2
 | all ps gg =>
  obtain ⟨hs,w',E',H',hrun,ha,hle,g',hv,_⟩ := h1 h.1
  exact fin _ _ w' E' H' hrun ha hle g' hv (h.2 hs)
 | bad=>exact h.elim

theorem runs_opr {c : Conf} {ops : Array Oper} {i : Nat} {l : List Nat} {o : Oper} {key : Nat} (hri : c.top.ri = some (ops,i :: l)) (ho : ops[i]? = some o)
  (hg : guardR ops o c.top.tmps = .yes) (hf : c.fresh key = true)
  (h : (opr P (evS c.top.tmps) c.mem key o.op).After P C R c ops l o.dst) : Runs P C c R := by
 obtain ⟨f1,f2,f3⟩ := fresh_spec hf
 refine runs_right hri ho hg hf (fun E H w g ok=>?_) h
 have hk : ∀ x,(evS c.top.tmps x).has key = false := by
  intro x
  cases x with
  | tmp t =>
   simp only [evS,List.getD_eq_getElem?_getD]
   cases ht : c.top.tmps[t]? with
   | none=>simp [SV.has]
   | some v=>exact (SV.hasL_iff _).1 f2 v (List.mem_of_getElem? ht)
  | const v =>
   simp only [evS]
   unfold ofVal
   have h1 : ∀ v : Value,(ofVal1 v).has key = false := by intro v; unfold ofVal1; split <;> simp [SV.has]
   split
   ·simp only [SV.has,SV.hasL_iff]; intro x hx; obtain ⟨y,_,rfl⟩ := List.mem_map.1 hx; exact h1 y
   ·exact h1 _
  | global g=>simp [evS,SV.has]
  | func f=>simp [evS,SV.has,SV.hasL]
 exact opr_spec g (fun x=>den_evS E _ [] x) (ok_evS ok.1) f1 hk

theorem okL_args {H : HV} {tmps : List SV} (h : SV.OkL H tmps) {cl : Call} {f : FuncId} {first captured : List SV} (hc : calleeOf (evS tmps) cl.callee = some (f,first,captured)) :
  SV.OkL H (first ++ cl.args.toList.map (evS tmps) ++ captured) := by
 cases hcl : cl.callee with
 | invoke r n=>simp [hcl,calleeOf] at hc
 | builtin b=>simp [hcl,calleeOf] at hc
 | value x =>
  simp only [hcl,calleeOf] at hc
  split at hc
  ·rename_i f' a' c' hx
   simp only [Option.some.injEq,Prod.mk.injEq] at hc
   obtain ⟨rfl,rfl,rfl⟩ := hc
   have := ok_evS h x
   rw [hx] at this
   refine okL_append (okL_append this.1 ?_) this.2
   rw [SV.OkL_iff]
   intro y hy
   obtain ⟨z,_,rfl⟩ := List.mem_map.1 hy
   exact ok_evS h z
  ·cases hc

theorem has_evS {key : Nat} {tmps : List SV} (f2 : SV.hasL key tmps = false) (x : Operand) : (evS tmps x).has key = false := by
 cases x with
 | tmp t =>
  simp only [evS,List.getD_eq_getElem?_getD]
  cases ht : tmps[t]? with
  | none=>simp [SV.has]
  | some v=>exact (SV.hasL_iff _).1 f2 v (List.mem_of_getElem? ht)
 | const v =>
  simp only [evS]
  unfold ofVal
  have h1 : ∀ v : Value,(ofVal1 v).has key = false := by intro v; unfold ofVal1; split <;> simp [SV.has]
  split
  ·simp only [SV.has,SV.hasL_iff]; intro x hx; obtain ⟨y,_,rfl⟩ := List.mem_map.1 hx; exact h1 y
  ·exact h1 _
 | global g=>simp [evS,SV.has]
 | func f=>simp [evS,SV.has,SV.hasL]

theorem has_args {key : Nat} {tmps : List SV} (h : SV.hasL key tmps = false) {cl : Call} {f : FuncId} {first captured : List SV} (hc : calleeOf (evS tmps) cl.callee = some (f,first,captured)) :
  SV.hasL key (first ++ cl.args.toList.map (evS tmps) ++ captured) = false := by
 cases hcl : cl.callee with
 | invoke r n=>simp [hcl,calleeOf] at hc
 | builtin b=>simp [hcl,calleeOf] at hc
 | value x =>
  simp only [hcl,calleeOf] at hc
  split at hc
  ·rename_i f' a' c' hx
   simp only [Option.some.injEq,Prod.mk.injEq] at hc
   obtain ⟨rfl,rfl,rfl⟩ := hc
   have := has_evS h x
   rw [hx] at this
   simp only [SV.has,Bool.or_eq_false_iff] at this
   refine hasL_append (hasL_append this.1 ?_) this.2
   rw [SV.hasL_iff]
   intro y hy
   obtain ⟨z,_,rfl⟩ := List.mem_map.1 hy
   exact has_evS h z
  ·cases hc
theorem runs_ctr {c : Conf} {ops : Array Oper} {i : Nat} {l : List Nat} {o : Oper} {key : Nat} (hri : c.top.ri = some (ops,i :: l)) (ho : ops[i]? = some o)
  (hg : guardR ops o c.top.tmps = .yes) (hf : c.fresh key = true) {cl : Call} (hop : o.op = .call cl) {f : FuncId} {first captured : List SV}
  (hc : calleeOf (evS c.top.tmps) cl.callee = some (f,first,captured))
  {ctr : Ctr} (hctr : CtrOk P f ctr)
  (h : (ctr (first ++ cl.args.toList.map (evS c.top.tmps) ++ captured) key c.mem).After P C R c ops l o.dst) : Runs P C c R := by
 intro E H w g ok
 obtain ⟨f1,f2,f3⟩ := fresh_spec hf
 obtain ⟨⟨fn,hfn,hb,hn⟩,hctr,_⟩ := hctr
 have hcall := hctr C E H w _ key c.mem g (okL_args ok.1 hc) f1 (has_args f2 hc)
 have hrun := run_call (P := P) (fun x=>den_evS E c.top.tmps (dsOf C.x c.rest) x) hc hfn hb hn hop w
 have e2 : c.top.dn (dsOf C.x c.rest) (roOf C.x c.rest) E = ⟨c.top.fn,some (ops,i :: l),c.top.await,c.top.todo,(c.top.dn (dsOf C.x c.rest) (roOf C.x c.rest) E).act,roOf C.x c.rest⟩ := by simp [SFrm.dn,hri]
 have fin : ∀ v m' w' E' H',Agree key E E' → HLe H H' → Good C m' E' H' w' → v.Ok H' →
   Runs P C { c with top := { c.top with ri := some (ops,l),tmps := putS c.top.tmps o.dst v },mem := m' } R →
   CFrm.run P ⟨c.top.fn,some (ops,l),c.top.await,c.top.todo,(c.top.dn (dsOf C.x c.rest) (roOf C.x c.rest) E).act.put o.dst (v.den E'),roOf C.x c.rest⟩ w' (restOf P C.x (c.rest.map (SFrm.den E)) R) := by
  intro v m' w' E' H' ha hle g' hv hR
  have h2 := hR E' H' w' g' ⟨okL_putS (SV.OkL.mono hle _ ok.1) hv,fun f hf=>SV.OkL.mono hle _ (ok.2 f hf)⟩
  rw [stkRun_eq] at h2
  simp only at h2
  rw [rest_agree ha f3] at h2
  have e : (SFrm.dn (dsOf C.x c.rest) (roOf C.x c.rest) E' { c.top with ri := some (ops,l),tmps := putS c.top.tmps o.dst v }) = ⟨c.top.fn,some (ops,l),c.top.await,c.top.todo,(c.top.dn (dsOf C.x c.rest) (roOf C.x c.rest) E).act.put o.dst (v.den E'),roOf C.x c.rest⟩ := by
   simp only [SFrm.dn]
   rw [← put_den,SV.denL_agree ha _ f2]
  rw [e] at h2
  exact h2
 rw [stkRun_eq,e2]
 generalize ctr (first ++ cl.args.toList.map (evS c.top.tmps) ++ captured) key c.mem = r at h hcall
 cases r with
 | val ps v m' =>
  have hcall := hcall h.1
  refine frm_call ho ((guardR_spec (E := E)).1 hg) hrun (T := fun v' w'=>∃ E' H',v' = v.den E' ∧ Agree key E E' ∧ HLe H H' ∧ Good C m' E' H' w' ∧ v.Ok H')
   (Calls.mono hcall fun e w' he=>?_) (fun v' w' hT=>?_)
  ·obtain ⟨E',H',rfl,h1,h2,h3,h4,_⟩ := he
   exact ⟨_,rfl,E',H',rfl,h1,h2,h3,h4⟩
  ·obtain ⟨E',H',rfl,ha,hle,g',hv⟩ := hT
   exact fin v m' w' E' H' ha hle g' hv h.2
 | all ps gg =>
  have hcall := hcall h.1
  refine frm_call ho ((guardR_spec (E := E)).1 hg) hrun (T := fun v' w'=>∃ hs E' H',v' = (gg hs).1.den E' ∧ Agree key E E' ∧ HLe H H' ∧ Good C (gg hs).2 E' H' w' ∧ (gg hs).1.Ok H')
   (Calls.mono hcall fun e w' he=>?_) (fun v' w' hT=>?_)
  ·obtain ⟨hs,E',H',rfl,h1,h2,h3,h4,_⟩ := he
   exact ⟨_,rfl,hs,E',H',rfl,h1,h2,h3,h4⟩
  ·obtain ⟨hs,E',H',rfl,ha,hle,g',hv⟩ := hT
   exact fin _ _ w' E' H' ha hle g' hv (h.2 hs)
 | bad=>exact h.elim
theorem runs_in {c : Conf} {ops : Array Oper} {i : Nat} {l : List Nat} {o : Oper} (hri : c.top.ri = some (ops,i :: l)) (ho : ops[i]? = some o)
    (hg : guardR ops o c.top.tmps = .yes) {cl : Call} (hop : o.op = .call cl) {f : FuncId} {first captured : List SV}
    (hc : calleeOf (evS c.top.tmps) cl.callee = some (f,first,captured)) {fn : Func} (hfn : P.funcs[f]? = some fn) {body : Code} (hb : fn.body = some body) (hn : (fn.name == "runtime.NumGoroutine") = false)
    (h : Runs P C { top := ⟨f, none, none, [.code body], (first ++ cl.args.toList.map (evS c.top.tmps) ++ captured) ++ List.replicate (fn.ntmps - (first ++ cl.args.toList.map (evS c.top.tmps) ++ captured).length) .undef⟩,
                    rest := { c.top with ri := some (ops,l),await := o.dst } :: c.rest,mem := c.mem } R) : Runs P C c R := by
  intro E H w g ok
  have hrun := run_call (P := P) (fun x=>den_evS E c.top.tmps (dsOf C.x c.rest) x) hc hfn (by simp [hb]) hn hop w
  have e2 : c.top.dn (dsOf C.x c.rest) (roOf C.x c.rest) E = ⟨c.top.fn,some (ops,i :: l),c.top.await,c.top.todo,(c.top.dn (dsOf C.x c.rest) (roOf C.x c.rest) E).act,roOf C.x c.rest⟩ := by simp [SFrm.dn,hri]
  have hargs := okL_args ok.1 hc
  generalize first ++ cl.args.toList.map (evS c.top.tmps) ++ captured = args at h hrun hargs
  have h1 := h E H w g ⟨okL_append hargs (by rw [SV.OkL_iff]; intro x hx; rw [List.eq_of_mem_replicate hx]; simp [SV.Ok]),fun f hf=>by
    rcases List.mem_cons.1 hf with rfl | hf
    · exact ok.1
    · exact ok.2 f hf⟩
  rw [stkRun_eq,e2]
  rw [stkRun_eq] at h1
  simp only [List.map_cons,dsOf,roOf] at h1
  refine frm_call ho ((guardR_spec (E := E)).1 hg) hrun (T := restOf P C.x (SFrm.den E { c.top with ri := some (ops,l),await := o.dst } :: c.rest.map (SFrm.den E)) R) (calls_of_go1 hfn hb ?_) (fun v w' hT=>?_)
  · simp only [SFrm.dn,CFrm.run] at h1
    have e3 : (SV.denL E args).toArray ++ Array.replicate (fn.ntmps - (SV.denL E args).toArray.size) undef = (SV.denL E (args ++ List.replicate (fn.ntmps - args.length) .undef)).toArray := by
      simp [SV.denL_eq,SV.den,← List.toArray_replicate]
    rw [e3]
    exact h1
  · simp only [restOf] at hT
    cases hr : c.rest with
    | nil=>rw [hr] at hT; generalize o.dst = dst at hT ⊢; cases dst <;> exact hT
    | cons g r=>rw [hr] at hT; generalize o.dst = dst at hT ⊢; cases dst <;> exact hT

theorem closeV_spec {E : Env} {H : HV} {w : World} {m : Mem} (g : Good C m E H w) : (∀ v : SV,v.Ok H → (closeV m v).den E = v.den E ∧ (closeV m v).Ok H) := by
 have key : ∀ v : SV,(v.Ok H → (closeV m v).den E = v.den E ∧ (closeV m v).Ok H) := by
  intro v
  refine SV.rec (motive_1 := fun v=>v.Ok H → (closeV m v).den E = v.den E ∧ (closeV m v).Ok H)
   (motive_2 := fun l=>SV.OkL H l → SV.denL E (closeL m l) = SV.denL E l ∧ SV.OkL H (closeL m l)) ?_ ?_ ?_ ?_ ?_ ?_ ?_ ?_ ?_ ?_ ?_ ?_ ?_ ?_ ?_ ?_ ?_ ?_ ?_ ?_ ?_ ?_ ?_ v
  case refine_7 =>
   intro k _
   simp only [closeV]
   split
   ·rename_i d hk
    obtain ⟨⟨a,b,c,rfl,e⟩,hok⟩ := g.own k _ (Mem.get_mem hk)
    exact ⟨by simp only [SV.den,e]; rfl,hok,a,b,c,rfl⟩
   ·exact ⟨rfl,by simp [SV.Ok]⟩
  case refine_13 =>
   intro l ih h
   simp only [SV.Ok] at h
   obtain ⟨h1,h2⟩ := ih h
   exact ⟨by simp only [closeV,SV.den,h1],by simpa only [closeV,SV.Ok] using h2⟩
  case refine_14 =>
   intro l ih h
   simp only [SV.Ok] at h
   obtain ⟨h1,h2⟩ := ih h
   exact ⟨by simp only [closeV,SV.den,h1],by simpa only [closeV,SV.Ok] using h2⟩
  case refine_22=>intro _; exact ⟨rfl,by simp [closeL,SV.OkL]⟩
  case refine_23 =>
   intro x r ih1 ih2 h
   obtain ⟨a,b⟩ := ih1 h.1
   obtain ⟨c,d⟩ := ih2 h.2
   exact ⟨by simp only [closeL,SV.denL,a,c],b,d⟩
  all_goals (intros; exact ⟨rfl,by assumption⟩)
 exact key
end
end Sx
end
noncomputable section
namespace Sx
open Go RowKit
def Same (n : Nat) (E E' : Env) : Prop := E'.b = E.b ∧ E'.v = E.v ∧ ∀ i,i < n → E'.j i = E.j i

theorem den_same {n : Nat} {E E' : Env} (h : Same n E E') (v : SV) : v.jk n = false → v.den E' = v.den E := by
 obtain ⟨h1,h2,h3⟩ := h
 refine SV.rec (motive_1 := fun v=>v.jk n = false → v.den E' = v.den E) (motive_2 := fun l=>SV.jkL n l = false → SV.denL E' l = SV.denL E l)
  ?_ ?_ ?_ ?_ ?_ ?_ ?_ ?_ ?_ ?_ ?_ ?_ ?_ ?_ ?_ ?_ ?_ ?_ ?_ ?_ ?_ ?_ ?_ v
 case refine_13=>intro l ih hj; simp only [SV.den,ih (by simpa [SV.jk] using hj)]
 case refine_14=>intro l ih hj; simp only [SV.den,ih (by simpa [SV.jk] using hj)]
 case refine_15=>intro f a c ih1 ih2 hj; simp only [SV.jk,Bool.or_eq_false_iff] at hj; simp only [SV.den,ih1 hj.1,ih2 hj.2]
 case refine_19=>intro i hj; simp only [SV.jk,decide_eq_false_iff_not,Nat.not_le] at hj; simp only [SV.den]; exact h3 i hj
 case refine_22=>intro _; simp [SV.denL]
 case refine_23=>intro x r ih1 ih2 hj; simp only [SV.jkL,Bool.or_eq_false_iff] at hj; simp only [SV.denL,ih1 hj.1,ih2 hj.2]
 all_goals (intros; simp only [SV.den,h1,h2])

theorem denL_same {n : Nat} {E E' : Env} (h : Same n E E') : ∀ (l : List SV),SV.jkL n l = false → SV.denL E' l = SV.denL E l
 | [],_=>by simp [SV.denL]
 | x :: r,hj=>by
  simp only [SV.jkL,Bool.or_eq_false_iff] at hj
  simp only [SV.denL,den_same h x hj.1,denL_same h r hj.2]

theorem OOk.same {C : Ctx} {n : Nat} {E E' : Env} {H : HV} {w : World} {k : Nat} {o : OBlk} (h : OOk C E H w k o) (hs : Same n E E') (ho : o.jk n = false) : OOk C E' H w k o := by
 obtain ⟨h1,h2,h3⟩ := id hs
 cases o with
 | cells t cs =>
  obtain ⟨a,b,c,d⟩ := h
  refine ⟨by rw [h1]; exact a,?_,by rw [h1]; exact c,d⟩
  rw [h1,denL_same hs cs (by simpa [OBlk.jk] using ho)]; exact b
 | pub d=>exact ⟨by rw [h2]; exact h.1,h.2⟩
 | mapD kk ag ts d =>
  obtain ⟨a,b,⟨en,cl,hh,hm⟩,c⟩ := h
  exact ⟨by rw [h1]; exact a,by rw [h1]; exact b,⟨en,cl,by rw [h1]; exact hh,by rw [den_mapEs E E']; exact hm⟩,c⟩
 | map es =>
  obtain ⟨a,b,⟨en,cl,hh,hm⟩,c⟩ := h
  refine ⟨by rw [h1]; exact a,by rw [h1]; exact b,⟨en,cl,by rw [h1]; exact hh,?_,hm.2⟩,c⟩
  refine hm.1.trans (List.Perm.of_eq ?_)
  apply List.map_congr_left
  intro e he
  simp only [OBlk.jk,List.any_eq_false,Bool.or_eq_true,not_or,Bool.not_eq_true] at ho
  rw [den_same hs _ (ho e he).1,den_same hs _ (ho e he).2]
 | arr e d =>
  obtain ⟨hd,sz,rows,rfl,hv,how,hl,hk2,hx⟩ := h
  exact ⟨hd,sz,rows,rfl,by rw [h2]; exact hv,how,hl,hk2,fun a c hc=>by
   obtain ⟨p,q⟩ := hx a c hc
   exact ⟨by rw [h1]; exact p,by rw [h1]; exact q⟩⟩

theorem Good.same' {C : Ctx} {n : Nat} {m : Mem} {E E' : Env} {H : HV} {w : World} (g : Good C m E H w) (hs : Same n E E') (hm : ∀ x,x ∈ m → x.2.jk n = false) : Good C m E' H w :=
 ⟨g.below,g.ext,g.fresh,g.cell,fun k o h=>(g.own k o h).same hs (hm _ h),g.keys,fun x y hx hy hne h1 h2=>by rw [hs.1]; exact g.apart x y hx hy hne h1 h2,g.fix.keep (fun k _=>by rw [hs.1]) fun _ _ h _=>h⟩

theorem maskT_den {n : Nat} {E E' : Env} (hs : Same n E E') (live : List Nat) : ∀ (l : List SV) (t : Nat),keptOk n live t l = true →
  (∀ i v,l[i]? = some v → E'.j (n + (t + i)) = v.den E) → SV.denL E' (maskT n live t l) = SV.denL E l
 | [],_,_,_=>by simp [maskT,SV.denL]
 | v :: r,t,hk,hj=>by
  simp only [keptOk,Bool.and_eq_true] at hk
  have ih := maskT_den hs live r (t + 1) hk.2 (fun i u hu=>by have := hj (i + 1) u (by simpa using hu); rw [show t + 1 + i = t + (i + 1) from by omega]; exact this)
  simp only [maskT,SV.denL,ih]
  congr 1
  split
  ·rename_i hc
   rw [if_pos hc] at hk
   exact den_same hs v (by simpa using hk.1)
  ·have := hj 0 v (by simp)
   simpa [SV.den] using this

theorem maskT_ok {n : Nat} {H : HV} (live : List Nat) : ∀ (l : List SV) (t : Nat),SV.OkL H l → SV.OkL H (maskT n live t l)
 | [],_,_=>by simp [maskT,SV.OkL]
 | v :: r,t,h=>by
  simp only [maskT,SV.OkL]
  refine ⟨?_,maskT_ok live r (t + 1) h.2⟩
  split
  ·exact h.1
  ·simp [SV.Ok]

theorem forget_sound {P : Program} {C : Ctx} {R : Value → World → Prop} {live : List Nat} {c c' : Conf} (hf : forgetC live c = some c') (h : Runs P C c' R) : Runs P C c R := by
 unfold forgetC at hf
 simp only at hf
 split at hf
 ·rename_i hc
  simp only [Bool.and_eq_true] at hc
  obtain ⟨⟨h1,h2⟩,h3⟩ := hc
  cases hf
  intro E H w g ok
  let n := 1000 * c.rest.length
  let E' : Env := ⟨E.b,E.v,fun i=>if i < n then E.j i else ((SV.denL E c.top.tmps)[i - n]?).getD Go.undef⟩
  have hs : Same n E E' := ⟨rfl,rfl,fun i hi=>by simp [E',hi]⟩
  have hg := (g.sub (List.filter_sublist (p := fun e=>(reachK c.mem (maskT n live 0 c.top.tmps) c.rest (c.mem.length + 1) []).contains e.1))).same' hs
   (fun x hx=>by have := List.all_eq_true.1 h2 x hx; simpa using this)
  have hr := h E' H w hg ⟨maskT_ok live _ _ ok.1,ok.2⟩
  have e1 : SV.denL E' (maskT n live 0 c.top.tmps) = SV.denL E c.top.tmps := by
   refine maskT_den hs live _ 0 h1 (fun i v hv=>?_)
   simp only [E',Nat.zero_add]
   rw [if_neg (by omega),show n + i - n = i from by omega,SV.denL_eq,List.getElem?_map,hv]
   rfl
  have e2 : c.rest.map (SFrm.den E') = c.rest.map (SFrm.den E) := by
   apply List.map_congr_left
   intro f hf
   have := List.all_eq_true.1 h3 f hf
   simp only [Bool.not_eq_true'] at this
   simp [SFrm.den,denL_same hs _ this]
  simp only at hr
  rw [e2] at hr
  have e3 : SFrm.den E' { c.top with tmps := maskT (1000 * c.rest.length) live 0 c.top.tmps } = c.top.den E := by
   simp only [SFrm.den]
   rw [show SV.denL E' (maskT (1000 * c.rest.length) live 0 c.top.tmps) = SV.denL E c.top.tmps from e1]
  rw [e3] at hr
  exact hr
 ·cases hf

theorem fgt_sound {P : Program} {C : Ctx} {R : Value → World → Prop} {c : Conf} (h : Runs P C (fgt P c) R) : Runs P C c R := by
 unfold fgt at h
 split at h
 ·rename_i c' hc; exact forget_sound hc h
 ·exact h
end Sx
end
noncomputable section
namespace Sx
open Go RowKit

section
variable {P : Program} {C : Ctx}
theorem oprQ_spec {m : Mem} {E : Env} {H : HV} {w : World} {tmps : List SV} {o : Oper} (g : Good C m E H w) (hok' : SV.OkL H tmps) {ps : List Prop} {v : SV}
  (h : oprQ P tmps m o.op = some (ps,v)) (hp : ∀ p,p ∈ ps → p) :
  (execOp (⟨(SV.denL E tmps).toArray,[]⟩ : Act).eval o).run P w = .ok (.value (v.den E)) w ∧ v.Ok H := by
 have hok : ∀ x,(evS tmps x).Ok H := ok_evS hok'
 have evn : (⟨(SV.denL E tmps).toArray,[]⟩ : Act).eval = fun x=>(evS tmps x).den E := funext fun x=>den_evS E tmps [] x
 rw [evn]
 obtain ⟨dst,op,type,pos,after,guard⟩ := o
 simp only [oprQ] at h
 cases op <;> simp only [quickOp,if_true,Bool.false_eq_true,if_false,reduceCtorEq,opr] at h
 case move x=>simp only [Option.some.injEq,Prod.mk.injEq] at h; obtain ⟨rfl,rfl⟩ := h; exact ⟨by simp [execOp],hok x⟩
 case assign x=>simp only [Option.some.injEq,Prod.mk.injEq] at h; obtain ⟨rfl,rfl⟩ := h; exact ⟨by simp [execOp],hok x⟩
 case pick c x y =>
  split at h
  ·rename_i ps' v' m' he
   split at he
   ·rename_i hc; cases he; cases h; exact ⟨by simp [execOp,hc,SV.den,run_bool],hok x⟩
   ·rename_i hc; cases he; cases h; exact ⟨by simp [execOp,hc,SV.den,run_bool],hok y⟩
   ·cases he
  ·cases h
 case build t qs =>
  split at h
  ·rename_i ps' v' m' he
   split at he
   ·rename_i u hv
    cases he; cases h
    obtain ⟨h1,h2⟩ := buildR_spec (E := E) (w := w) (H := H) hv (fun p hp=>by obtain ⟨y,_,rfl⟩ := List.mem_map.1 hp; exact hok _)
    refine ⟨?_,h2⟩
    simp only [List.map_map] at h1
    have e : (qs.map fun x=>(x.1,(evS tmps x.2).den E)) = (qs.toList.map ((fun p : Nat × SV=>(p.1,p.2.den E)) ∘ fun x=>(x.1,evS tmps x.2))).toArray := by
     rw [array_map_list]; rfl
    simp only [execOp,Sem.run_bind]
    rw [show (qs.map fun x=>match x with | (i,x)=>(i,(evS tmps x).den E)) = (qs.map fun x=>(x.1,(evS tmps x.2).den E)) from rfl,e,h1]
    rfl
   ·cases he
  ·cases h
 case load t x =>
  split at h
  ·rename_i ps' v' m' he
   split at he
   ·rename_i qs u hv
    cases he; cases h
    obtain ⟨h1,h2⟩ := loadR_spec g (hok x) hv hp
    exact ⟨by simp only [execOp,Sem.run_bind,h1]; rfl,h2⟩
   ·cases he
  ·cases h
 case nilCheck x =>
  have hx := hok x
  split at h
  ·rename_i ps' v' m' he
   split at he
   all_goals first | (cases he; done) | (rename_i hc; rw [hc] at hx; cases he; cases h; exact ⟨by simp [execOp,hc,SV.den],hx⟩)
  ·cases h
 case binOp op t x y yt =>
  split at h
  ·rename_i ps' v' m' he
   split at he
   ·rename_i qs u hv
    cases he; cases h
    obtain ⟨h1,h2⟩ := binR_spec g (hok x) hv hp x y
    exact ⟨by simp only [execOp]; rw [Sem.run_bind,h1]; rfl,h2⟩
   ·cases he
  ·cases h
 case unOp op t x =>
  split at h
  ·rename_i ps' v' m' he
   split at he
   ·rename_i u hv
    cases he; cases h
    obtain ⟨h1,h2⟩ := unR_spec (P := P) (E := E) (H := H) (w := w) hv
    exact ⟨by simp only [execOp,Sem.run_bind,h1]; rfl,h2⟩
   ·cases he
  ·cases h
 case convert src dst x =>
  split at h
  ·rename_i ps' v' m' he
   split at he
   ·rename_i ds k k' n hs hd hx
    cases he; cases h
    refine ⟨?_,by simp [SV.Ok]⟩
    simp only [execOp,hx,SV.den,Go.convert,Sem.run_bind,run_underlying hs,run_underlying hd,Result.andThen_ok]
    cases ds <;> simp [Conv.intToInt]
   ·rename_i e hs hd
    split at he
    ·rename_i d he' hda
     cases he; cases h
     refine ⟨?_,by simp [SV.Ok]⟩
     simp only [execOp,Sem.run_bind,bytes_spec g (hok x) hda (hp _ (List.mem_singleton.2 rfl)) hs he' hd]
     rfl
    ·cases he
   ·cases he
  ·cases h
 case extract x i =>
  split at h
  ·rename_i ps' v' m' he
   split at he
   ·rename_i l hx
    split at he
    ·rename_i u hv
     cases he; cases h
     have := hok x
     rw [hx] at this
     exact ⟨by simp [execOp,hx,SV.den,Instr.extract,SV.denL_eq,hv],(SV.OkL_iff l).1 this _ (List.mem_of_getElem? hv)⟩
    ·cases he
   ·cases he
  ·cases h
 case fieldAddr s x f =>
  split at h
  ·rename_i ps' v' m' he
   split at he
   ·rename_i u hv
    cases he; cases h
    obtain ⟨h1,h2⟩ := fieldR_spec (E := E) (w := w) hv (hok x)
    exact ⟨by simp only [execOp,Sem.run_bind,h1]; rfl,h2⟩
   ·cases he
  ·cases h
 case indexAddr t x i =>
  split at h
  ·rename_i ps' v' m' he
   split at he
   ·rename_i qs u hv
    cases he; cases h
    obtain ⟨h1,h2⟩ := indexR_spec g (hok x) hv hp
    exact ⟨by simp only [execOp,Sem.run_bind,h1]; rfl,h2⟩
   ·cases he
  ·cases h
 case makeFunc fn first captured =>
  split at h
  ·rename_i ps' v' m' he
   split at he
   ·cases he; cases h
    refine ⟨?_,?_⟩
    ·simp only [execOp,Instr.makeFunc,SV.den,SV.denL_eq,array_map_list,List.map_map]; rfl
    ·simp only [SV.Ok,SV.OkL_iff]
     exact ⟨fun x hx=>by obtain ⟨y,_,rfl⟩ := List.mem_map.1 hx; exact hok y,fun x hx=>by obtain ⟨y,_,rfl⟩ := List.mem_map.1 hx; exact hok y⟩
   ·cases he
  ·cases h
 case call c =>
  obtain ⟨callee,args,argTypes⟩ := c
  simp only at h
  split at h
  ·simp only [if_true] at h
   simp only [callB] at h
   split at h
   ·rename_i ps' v' m' he
    split at he
    ·rename_i x t _ ha ht
     split at he
     ·rename_i e d hu hd
      cases he; cases h
      obtain ⟨hv,hr,_⟩ := dataOf_spec g (hok x) hd
      refine ⟨?_,by simp [SV.Ok]⟩
      have ea : args = #[x] := by rw [← Array.toArray_toList (xs := args),ha]
      have et : argTypes = #[t] := by rw [← Array.toArray_toList (xs := argTypes),ht]
      subst ea; subst et
      simp only [execOp,resolve,invoke,builtin,Sem.run_bind,Sem.run_pure,Result.andThen_ok,List.map_toArray,List.map_cons,List.map_nil]
      have : (Builtin.len_ #[t] type #[(evS tmps x).den E]).run P w = .ok (.int .i64 d.len) w := by
       rw [hv]
       cases hh : d.hd with
       | none =>
        have h0 : d.len = 0 := by
         rcases hr.2 with ⟨_,h0⟩ | ⟨a',c',h1,_⟩
         ·simp [D.len,h0]
         ·rw [hv,hh] at h1; simp [hval] at h1
        simp [Builtin.len_,hval,run_underlying hu,goInt,h0]
       | some q=>simp [Builtin.len_,hval,run_underlying hu,goInt]
      rw [this]
      rfl
     ·rename_i e hu hd
      cases h
      obtain ⟨h1,h2⟩ := lenV_run (P := P) (ty := type) g hu he hp
      refine ⟨?_,h2⟩
      have ea : args = #[x] := by rw [← Array.toArray_toList (xs := args),ha]
      have et : argTypes = #[t] := by rw [← Array.toArray_toList (xs := argTypes),ht]
      subst ea; subst et
      simp only [execOp,resolve,invoke,builtin,Sem.run_bind,Sem.run_pure,Result.andThen_ok,List.map_toArray,List.map_cons,List.map_nil]
      rw [h1]
      rfl
     ·cases he
    ·rename_i hne _ _; cases hne
    ·rename_i hne _ _; cases hne
    ·rename_i hne _ _; cases hne
    ·rename_i hne _; cases hne
    ·rename_i hne _; cases hne
    ·cases he
   ·cases h
  ·simp at h
end
end Sx
end
noncomputable section
namespace Sx
open Go RowKit

mutual
def SV.keys : SV → List Nat
 | .vec k=>[k]
 | .ptr k _=>[k]
 | .velt k _ _ _=>[k]
 | .view k _ _ _=>[k]
 | .mapp k=>[k]
 | .sl k _=>[k]
 | .agg l=>SV.keysL l
 | .tup l=>SV.keysL l
 | .fn _ a c=>SV.keysL a ++ SV.keysL c
 | _=>[]
def SV.keysL : List SV → List Nat
 | []=>[]
 | x :: r=>SV.keys x ++ SV.keysL r
end

mutual
theorem SV.has_of_keys {k : Nat} : ∀ x : SV,k ∉ x.keys → x.has k = false
 | .vec j,h=>by simp only [SV.keys,List.mem_singleton] at h; simp [SV.has,Ne.symm h]
 | .ptr j _,h=>by simp only [SV.keys,List.mem_singleton] at h; simp [SV.has,Ne.symm h]
 | .velt j _ _ _,h=>by simp only [SV.keys,List.mem_singleton] at h; simp [SV.has,Ne.symm h]
 | .view j _ _ _,h=>by simp only [SV.keys,List.mem_singleton] at h; simp [SV.has,Ne.symm h]
 | .mapp j,h=>by simp only [SV.keys,List.mem_singleton] at h; simp [SV.has,Ne.symm h]
 | .sl j _,h=>by simp only [SV.keys,List.mem_singleton] at h; simp [SV.has,Ne.symm h]
 | .agg l,h=>by simp only [SV.keys] at h; simp only [SV.has]; exact SV.hasL_of_keys l h
 | .tup l,h=>by simp only [SV.keys] at h; simp only [SV.has]; exact SV.hasL_of_keys l h
 | .fn _ a c,h=>by
  simp only [SV.keys,List.mem_append,not_or] at h
  simp only [SV.has,SV.hasL_of_keys a h.1,SV.hasL_of_keys c h.2,Bool.or_self]
 | .int ..,_=>by simp [SV.has]
 | .bool _,_=>by simp [SV.has]
 | .lb _,_=>by simp [SV.has]
 | .str _,_=>by simp [SV.has]
 | .nils,_=>by simp [SV.has]
 | .dat _,_=>by simp [SV.has]
 | .elt ..,_=>by simp [SV.has]
 | .nilp,_=>by simp [SV.has]
 | .nilf,_=>by simp [SV.has]
 | .undef,_=>by simp [SV.has]
 | .junk _,_=>by simp [SV.has]
 | .raw _,_=>by simp [SV.has]
theorem SV.hasL_of_keys {k : Nat} : ∀ l : List SV,k ∉ SV.keysL l → SV.hasL k l = false
 | [],_=>by simp [SV.hasL]
 | x :: r,h=>by
  simp only [SV.keysL,List.mem_append,not_or] at h
  simp only [SV.hasL,SV.has_of_keys x h.1,SV.hasL_of_keys r h.2,Bool.or_self]
end

theorem SV.mem_keysL {k : Nat} : ∀ {l : List SV},k ∈ SV.keysL l ↔ ∃ x,x ∈ l ∧ k ∈ x.keys
 | []=>by simp [SV.keysL]
 | x :: r=>by simp [SV.keysL,SV.mem_keysL (l := r)]

def OBlk.keys : OBlk → List Nat
 | .cells _ cs=>SV.keysL cs
 | .map es=>es.flatMap fun e=>e.1.keys ++ e.2.keys
 | _=>[]

theorem OBlk.has_of_keys {k : Nat} {o : OBlk} (h : k ∉ o.keys) : o.has k = false := by
 cases o with
 | cells t cs=>exact SV.hasL_of_keys cs h
 | map es =>
  simp only [OBlk.keys,List.mem_flatMap,List.mem_append,not_exists,not_and,not_or] at h
  simp only [OBlk.has,List.any_eq_false,Bool.or_eq_true,not_or,Bool.not_eq_true]
  intro e he
  exact ⟨SV.has_of_keys _ (h e he).1,SV.has_of_keys _ (h e he).2⟩
 | arr e d=>rfl
 | pub d=>rfl
 | mapD kk ag ts d=>rfl
def Mem.named (m : Mem) : List Nat := m.flatMap fun e=>e.1 :: e.2.keys

theorem Mem.has_of_named {k : Nat} {m : Mem} (hk : k < PIN) (h : k ∉ Mem.named m) : Mem.has k m = false := by
 simp only [Mem.named,List.mem_flatMap,List.mem_cons,not_exists,not_and,not_or] at h
 rw [Mem.has_iff]
 exact ⟨hk,fun e he=>⟨fun e'=>(h e he).1 e'.symm,OBlk.has_of_keys (h e he).2⟩⟩
def maskN : List Nat → Nat
 | []=>0
 | k :: r=>2 ^ k ||| maskN r

theorem maskN_bit (k : Nat) : ∀ l : List Nat,(maskN l).testBit k = l.contains k
 | []=>by simp [maskN]
 | j :: r=>by
  simp only [maskN,Nat.testBit_or,Nat.testBit_two_pow,maskN_bit k r,List.contains_cons]
  congr 1
  by_cases h : j = k
  ·subst h; simp
  ·simp [h,Ne.symm h]

theorem mask_apart {a b : Nat} (h : (a &&& b) = 0) (k : Nat) (ha : a.testBit k = true) : b.testBit k = false := by
 have : (a &&& b).testBit k = false := by rw [h]; simp
 rw [Nat.testBit_and,ha,Bool.true_and] at this
 exact this
def pickM (m : Mem) (T : List Nat) : Mem := T.filterMap fun k=>(m.get k).map fun o=>(k,o)

def dropM (m : Mem) (T : List Nat) : Mem := m.filter fun e=>!T.contains e.1

theorem Mem.get_append (a b : Mem) (k : Nat) : Mem.get (a ++ b) k = (Mem.get a k).or (Mem.get b k) := by
 induction a with
 | nil=>simp [Mem.get]
 | cons x r ih =>
  obtain ⟨j,o⟩ := x
  simp only [List.cons_append,Mem.get]
  split
  ·simp
  ·exact ih

theorem Mem.get_drop (m : Mem) (T : List Nat) (k : Nat) : Mem.get (dropM m T) k = if k ∈ T then none else m.get k := by
 induction m with
 | nil=>simp [dropM,Mem.get]
 | cons x r ih =>
  obtain ⟨j,o⟩ := x
  unfold dropM at ih ⊢
  simp only [List.filter_cons]
  by_cases hj : T.contains j = true
  ·simp only [hj,Bool.not_true,Bool.false_eq_true,if_false,ih,Mem.get]
   by_cases hk : k ∈ T
   ·simp [hk]
   ·have : j ≠ k := fun e=>hk (by subst e; simpa using hj)
    simp [hk,this]
  ·simp only [hj,Bool.not_false,if_true,Mem.get,ih]
   by_cases hjk : j = k
   ·subst hjk
    have : j ∉ T := by simpa using hj
    simp [this]
   ·simp [hjk]

theorem Mem.get_none {m : Mem} {k : Nat} (h : k ∉ m.map (·.1)) : m.get k = none := by
 cases hg : m.get k with
 | none=>rfl
 | some o=>exact absurd (List.mem_map.2 ⟨_,Mem.get_mem hg,rfl⟩) h

theorem pickM_congr {m m' : Mem} {T : List Nat} (h : ∀ k,k ∈ T → m.get k = m'.get k) : pickM m T = pickM m' T := by
 unfold pickM
 induction T with
 | nil=>rfl
 | cons x r ih =>
  simp only [List.filterMap_cons]
  rw [h x List.mem_cons_self,ih fun k hk=>h k (List.mem_cons_of_mem _ hk)]

theorem pickM_mem {m : Mem} {T : List Nat} {x : Nat × OBlk} (h : x ∈ pickM m T) : x ∈ m ∧ x.1 ∈ T := by
 simp only [pickM,List.mem_filterMap,Option.map_eq_some_iff] at h
 obtain ⟨k,hk,o,ho,rfl⟩ := h
 exact ⟨Mem.get_mem ho,hk⟩

theorem Mem.get_of_mem {m : Mem} (hp : m.Pairwise fun x y=>x.1 ≠ y.1) {k : Nat} {o : OBlk} (h : (k,o) ∈ m) : m.get k = some o := by
 cases hg : m.get k with
 | none =>
  exfalso
  induction m with
  | nil=>cases h
  | cons x r ih =>
   obtain ⟨j,p⟩ := x
   simp only [Mem.get] at hg
   split at hg
   ·cases hg
   ·rename_i hj
    rcases List.mem_cons.1 h with h | h
    ·cases h; simp at hj
    ·exact ih (List.pairwise_cons.1 hp).2 h hg
 | some p=>exact congrArg some (Mem.unique hp (Mem.get_mem hg) h)

theorem pickM_keys {m : Mem} : ∀ {T : List Nat},T.Nodup → (pickM m T).Pairwise fun x y=>x.1 ≠ y.1
 | [],_=>by simp [pickM]
 | k :: r,h=>by
  simp only [List.nodup_cons] at h
  have ih := pickM_keys (m := m) h.2
  unfold pickM at ih ⊢
  simp only [List.filterMap_cons]
  cases hg : m.get k with
  | none=>simpa [hg] using ih
  | some o =>
   simp only [Option.map_some,List.pairwise_cons]
   refine ⟨fun x hx=>?_,ih⟩
   have := (pickM_mem (m := m) (T := r) (by unfold pickM; exact hx)).2
   exact fun e=>h.1 (by simpa [e] using this)
theorem Good.cut {C : Ctx} {m : Mem} {E : Env} {H : HV} {w : World} {T : List Nat} (hT : T.Nodup) (g : Good C m E H w) : Good C (pickM m T ++ dropM m T) E H w := by
 have hin : ∀ x,x ∈ pickM m T ++ dropM m T → x ∈ m := by
  intro x hx
  rcases List.mem_append.1 hx with h | h
  ·exact (pickM_mem h).1
  ·exact (List.mem_filter.1 h).1
 refine ⟨g.below,g.ext,g.fresh,g.cell,fun k o h=>g.own k o (hin _ h),?_,fun x y hx hy=>g.apart x y (hin x hx) (hin y hy),g.fix⟩
 rw [List.pairwise_append]
 refine ⟨pickM_keys hT,g.keys.sublist List.filter_sublist,fun x hx y hy=>?_⟩
 have h1 := (pickM_mem hx).2
 have h2 := (List.mem_filter.1 hy).2
 intro e
 rw [← e] at h2
 simp [h1] at h2

theorem Mem.get_pick (m : Mem) (T : List Nat) (k : Nat) : Mem.get (pickM m T) k = if k ∈ T then m.get k else none := by
 induction T with
 | nil=>simp [pickM,Mem.get]
 | cons j r ih =>
  unfold pickM at ih ⊢
  simp only [List.filterMap_cons]
  by_cases hj : j = k
  ·subst hj
   cases hg : m.get j with
   | none=>simp only [Option.map_none,ih,hg]; simp
   | some o=>simp only [Option.map_some,Mem.get]; simp
  ·have hj' : (j == k) = false := by simpa using hj
   cases hg : m.get j with
   | none=>simp only [Option.map_none,ih]; simp [Ne.symm hj]
   | some o=>simp only [Option.map_some,Mem.get,hj',Bool.false_eq_true,if_false,ih]; simp [Ne.symm hj]

theorem Mem.get_cut (m : Mem) (T : List Nat) (k : Nat) : Mem.get (pickM m T ++ dropM m T) k = m.get k := by
 rw [Mem.get_append,Mem.get_pick,Mem.get_drop]
 by_cases hk : k ∈ T <;> simp [hk]
theorem Good.alike {C : Ctx} {m m' : Mem} {E : Env} {H : HV} {w : World} (g : Good C m E H w) (h : ∀ k,m.get k = m'.get k) (hk : m'.Pairwise fun x y=>x.1 ≠ y.1) : Good C m' E H w := by
 have hin : ∀ x,x ∈ m' → x ∈ m := by
  intro x hx
  have := Mem.get_of_mem hk (k := x.1) (o := x.2) hx
  rw [← h] at this
  exact Mem.get_mem this
 exact ⟨g.below,g.ext,g.fresh,g.cell,fun k o h=>g.own k o (hin _ h),hk,fun x y hx hy=>g.apart x y (hin x hx) (hin y hy),g.fix⟩
inductive GD where
 | yes (ps : List Prop)
 | no (ps : List Prop)
 | ask (t : Nat) (b : Bool)
 | bad

def decOf : List (Nat × Bool) → Nat → Option Bool
 | [],_=>none
 | (j,b) :: r,t=>if j == t then some b else decOf r t

def guardD (dec : List (Nat × Bool)) (ops : Array Oper) (o : Oper) (tmps : List SV) : GD :=
 match o.guard with
 | none=>.yes []
 | some (j,want) =>
  match (ops[j]?).bind (·.dst) with
  | none=>.bad
  | some t=>match tmps[t]? with
   | some (.lb b)=>if b == want then .yes [] else .no []
   | some (.bool b)=>match decOf dec t with
    | some d=>if d == want then .yes [b = d] else .no [b = d]
    | none=>.ask t b
   | some .undef=>.no []
   | _=>.bad

theorem guardD_spec {E : Env} {dec : List (Nat × Bool)} {ops : Array Oper} {o : Oper} {tmps : List SV} {ps : List Prop} (hp : ∀ p,p ∈ ps → p) :
  (guardD dec ops o tmps = .yes ps → Region.wanted o (yielded ops (SV.denL E tmps).toArray) = true) ∧
  (guardD dec ops o tmps = .no ps → Region.wanted o (yielded ops (SV.denL E tmps).toArray) = false) := by
 unfold guardD Region.wanted
 cases hg : o.guard with
 | none=>simp
 | some x =>
  obtain ⟨j,want⟩ := x
  simp only
  cases hd : (ops[j]?).bind (·.dst) with
  | none=>simp
  | some t =>
   simp only [yielded,hd,Option.bind_some]
   have e : ((SV.denL E tmps).toArray)[t]? = (tmps[t]?).map (SV.den E) := by simp [SV.denL_eq]
   rw [e]
   cases ht : tmps[t]? with
   | none=>simp
   | some v =>
    cases v <;> simp [SV.den,Go.undef]
    case lb b=>cases b <;> cases want <;> simp
    case bool b =>
     cases hdec : decOf dec t with
     | none=>simp
     | some d =>
      constructor
      ·intro h
       simp only at h
       split at h
       ·rename_i hdw
        cases h
        have := hp _ (List.mem_singleton.2 rfl)
        rw [this,hdw]
       ·cases h
      ·intro h
       simp only at h
       split at h
       ·cases h
       ·rename_i hdw
        cases h
        have := hp _ (List.mem_singleton.2 rfl)
        rw [this]; exact hdw
structure Eff where
 ps : List Prop
 v : SV
 T : List Nat
 out : Option Mem
 ins : Option (Nat × IntKind × Int × SV)
 st : Option (Nat × Nat × List SV) := none
 ld : Option (Nat × Nat × Nat) := none

inductive StepR where
 | ok (e : Eff)
 | ask (t : Nat) (b : Bool)
 | bad

theorem addN_nodup {x : Nat} {l : List Nat} (h : l.Nodup) : (addN x l).Nodup := by
 unfold addN
 split
 ·exact h
 ·rename_i hc; exact List.nodup_cons.2 ⟨by simpa using hc,h⟩

theorem addNs_nodup : ∀ {xs l : List Nat},l.Nodup → (addNs xs l).Nodup
 | [],_,h=>h
 | x :: r,l,h=>by
  show (addN x (addNs r l)).Nodup
  exact addN_nodup (addNs_nodup h)
def memless : Op → Bool
 | .move _=>true
 | .assign _=>true
 | .build ..=>true
 | .nilCheck _=>true
 | .unOp ..=>true
 | .extract ..=>true
 | .fieldAddr ..=>true
 | .makeFunc ..=>true
 | _=>false

def keysOp (tmps : List SV) (op : Op) : List Nat :=
 match memless op with
 | true=>[]
 | false=>addNs (SV.keysL (op.operands.toList.map (evS tmps))) []

theorem keysOp_nodup (tmps : List SV) (op : Op) : (keysOp tmps op).Nodup := by
 unfold keysOp
 split
 ·exact List.nodup_nil
 ·exact addNs_nodup List.nodup_nil

section
variable (P : Program) (cs : Ctrs) (ops : Array Oper) (depth : Nat)
def outS (x : Option (List Prop × SV × Mem)) : Option (List Prop × SV × Option Mem) :=
 match x with
 | some (ps,v,m')=>some (ps,v,some m')
 | none=>none
def outC (m : Mem) (x : Option (List Prop × SV × Mem)) : Option (List Prop × SV × Option Mem) :=
 match x with
 | some (ps,v,m')=>match roM m && keysEq m' m with
  | true=>some (ps,v,none)
  | false=>some (ps,v,some m')
 | none=>none

def runOp (tmps : List SV) (key : Nat) (hs : Nat → D) (op : Op) (m : Mem) : Option (List Prop × SV × Option Mem) :=
 match quickOp op with
 | true=>match opr P (evS tmps) m 0 op with
  | .val ps v _=>some (ps,v,none)
  | _=>none
 | false=>match op with
   | .call cl=>match calleeOf (evS tmps) cl.callee with
    | some (f,first,captured)=>match cs.find f with
     | some ctr=>outC m (outOf (ctr (first ++ cl.args.toList.map (evS tmps) ++ captured) key m) hs)
     | none=>none
    | none=>outS (outOf (opr P (evS tmps) m key op) hs)
   | _=>outS (outOf (opr P (evS tmps) m key op) hs)

def pickD (dec : List (Nat × Bool)) (tmps : List SV) (t : Nat) (x y : Operand) (ps : List Prop) : StepR :=
 match tmps[t]? with
 | some (.lb d)=>.ok ⟨ps,if d then evS tmps x else evS tmps y,[],none,none,none,none⟩
 | some (.bool b)=>match decOf dec t with
  | some d=>.ok ⟨ps ++ [b = d],if d then evS tmps x else evS tmps y,[],none,none,none,none⟩
  | none=>.ask t b
 | _=>.bad
def lookD (dec : List (Nat × Bool)) (base : Nat) (T : List Nat) (d : SV) : Nat → List (Bool × SV) → List Prop → StepR
 | _,[],ps=>.ok ⟨ps,d,T,none,none,none,none⟩
 | j,(b,v) :: r,ps=>match decOf dec (base + j) with
  | some true=>.ok ⟨ps ++ [b = true],v,T,none,none,none,none⟩
  | some false=>lookD dec base T d (j + 1) r (ps ++ [b = false])
  | none=>.ask (base + j) b

def stepR (dec : List (Nat × Bool)) (hs : Nat → Nat → D) (s : List SV × Mem) (i : Nat) : StepR :=
 match ops[i]? with
 | none=>.bad
 | some o =>
  match guardD dec ops o s.1 with
  | .bad=>.bad
  | .ask t b=>.ask t b
  | .no ps=>.ok ⟨ps,.undef,[],none,none,none,none⟩
  | .yes ps =>
   match o.op with
   | .pick (.tmp t) x y=>pickD dec s.1 t x y ps
   | .lookup t x j ok=>match lookR P (pickM s.2 (keysOp s.1 (.lookup t x j ok))) t (evS s.1 x) (evS s.1 j) ok with
    | some (l,d)=>lookD dec (1000000 + 100 * i) (keysOp s.1 (.lookup t x j ok)) d 0 l ps
    | none=>.bad
   | .store t a x=>match evS s.1 a with
    | .ptr K off=>match (evS s.1 x).cells?,sizeT P t,s.2.get K with
     | some vs,some n,some (.cells _ cs)=>if vs.length = n ∧ off + n ≤ cs.length ∧ vs.all SV.one = true then .ok ⟨ps,.undef,[K],none,none,some (K,off,vs),none⟩ else .bad
     | _,_,_=>.bad
    | _=>match runOp P cs s.1 (dstKey depth o.dst) (hs i) (.store t a x) (pickM s.2 (keysOp s.1 (.store t a x))) with
     | some (qs,v,out)=>.ok ⟨ps ++ qs,v,keysOp s.1 (.store t a x),out,none,none,none⟩
     | none=>.bad
   | .load t a=>match runOp P cs s.1 (dstKey depth o.dst) (hs i) (.load t a) (pickM s.2 (keysOp s.1 (.load t a))) with
    | some (qs,v,none)=>.ok ⟨ps ++ qs,v,keysOp s.1 (.load t a),none,none,none,match evS s.1 a,sizeT P t with | .ptr K off,some n=>some (K,off,n) | _,_=>none⟩
    | _=>.bad
   | .insert t x j v=>match insOk P s.2 t (evS s.1 x) (evS s.1 j) with
    | some (K,k,n)=>.ok ⟨ps,.undef,[K],none,some (K,k,n,evS s.1 v),none,none⟩
    | none=>.bad
   | op=>match runOp P cs s.1 (dstKey depth o.dst) (hs i) op (pickM s.2 (keysOp s.1 op)) with
    | some (qs,v,out)=>.ok ⟨ps ++ qs,v,keysOp s.1 op,out,none,none,none⟩
    | none=>.bad

def dstOf (i : Nat) : Option Tmp := (ops[i]?).bind (·.dst)

def updC (off : Nat) (vs : List SV) : OBlk → OBlk
 | .cells t cs=>.cells t (cs.take off ++ vs ++ cs.drop (off + vs.length))
 | o=>o
def Eff.at (e : Eff) (k : Nat) (o : Option OBlk) : Option OBlk :=
 match e.st with
 | some (K,off,vs)=>if k = K then o.map (updC off vs) else o
 | none=>match e.ins with
  | some (K,kd,n,v)=>if k = K then o.map (insO kd n v) else o
  | none=>match e.out with
   | none=>o
   | some m=>(Mem.get m k).or (if k ∈ e.T then none else o)

def Eff.mem (e : Eff) (m : Mem) : Mem :=
 match e.st with
 | some (K,off,vs)=>match m.get K with
  | some o=>m.set K (updC off vs o)
  | none=>m
 | none=>match e.ins with
  | some (K,kd,n,v)=>match m.get K with
   | some o=>m.set K (insO kd n v o)
   | none=>m
  | none=>match e.out with
   | none=>m
   | some m'=>m' ++ dropM m e.T

def applyR (s : List SV × Mem) (i : Nat) (e : Eff) : List SV × Mem := (putS s.1 (dstOf ops i) e.v,e.mem s.2)
end

theorem Mem.get_set {m : Mem} {K : Nat} {o o' : OBlk} (hg : m.get K = some o) (k : Nat) : (m.set K o').get k = if k = K then some o' else m.get k := by
 induction m with
 | nil=>cases hg
 | cons x r ih =>
  obtain ⟨j,p⟩ := x
  simp only [Mem.get] at hg
  simp only [Mem.set]
  by_cases hj : j = K
  ·subst hj
   simp only [beq_self_eq_true,if_true,Mem.get]
   by_cases hk : k = j
   ·simp [hk]
   ·simp [hk,Ne.symm hk]
  ·have hj' : (j == K) = false := by simpa using hj
   simp only [hj',Bool.false_eq_true,if_false] at hg ⊢
   simp only [Mem.get]
   by_cases hk : j = k
   ·subst hk; simp [hj]
   ·have hk' : (j == k) = false := by simpa using hk
    simp only [hk',Bool.false_eq_true,if_false]
    exact ih hg

theorem Eff.mem_get (e : Eff) (m : Mem) (k : Nat) : (e.mem m).get k = e.at k (m.get k) := by
 unfold Eff.mem Eff.at
 have upd : ∀ (K : Nat) (f : OBlk → OBlk),(match m.get K with | some o=>m.set K (f o) | none=>m).get k = if k = K then (m.get k).map f else m.get k := by
  intro K f
  cases hg : m.get K with
  | none =>
   by_cases hk : k = K
   ·subst hk; simp [hg]
   ·simp [hk]
  | some o =>
   simp only [Mem.get_set hg]
   by_cases hk : k = K
   ·subst hk; simp [hg]
   ·simp [hk]
 cases hs : e.st with
 | some x =>
  obtain ⟨K,off,vs⟩ := x
  exact upd K (updC off vs)
 | none =>
  simp only
  cases hi : e.ins with
  | some x =>
   obtain ⟨K,kd,n,v⟩ := x
   exact upd K (insO kd n v)
  | none =>
   simp only
   cases ho : e.out with
   | none=>rfl
   | some m'=>simp only [Mem.get_append,Mem.get_drop]

theorem lookD_ok {dec : List (Nat × Bool)} {base : Nat} {T : List Nat} {d : SV} : ∀ {l : List (Bool × SV)} {j : Nat} {ps : List Prop} {e : Eff},lookD dec base T d j l ps = .ok e →
  (∀ p,p ∈ ps → p ∈ e.ps) ∧ e.T = T ∧ (e.out = none ∧ e.ins = none ∧ e.st = none) ∧ ((∀ p,p ∈ e.ps → p) → e.v = pickA d l)
 | [],_,_,_,h=>by cases h; exact ⟨fun _ h=>h,rfl,⟨rfl,rfl,rfl⟩,fun _=>rfl⟩
 | (b,v) :: r,j,ps,e,h=>by
  simp only [lookD] at h
  split at h
  ·cases h
   refine ⟨fun p hp=>List.mem_append_left _ hp,rfl,⟨rfl,rfl,rfl⟩,fun hp=>?_⟩
   have : b = true := hp _ (by simp)
   subst this; rfl
  ·obtain ⟨h1,h2,h3,h4⟩ := lookD_ok h
   refine ⟨fun p hp=>h1 p (List.mem_append_left _ hp),h2,h3,fun hp=>?_⟩
   have : b = false := hp _ (h1 _ (by simp))
   subst this
   exact h4 hp
  ·cases h

theorem lookD_ld {dec : List (Nat × Bool)} {base : Nat} {T : List Nat} {d : SV} : ∀ {l : List (Bool × SV)} {j : Nat} {ps : List Prop} {e : Eff},lookD dec base T d j l ps = .ok e → e.ld = none
 | [],_,_,_,h=>by cases h; rfl
 | (b,v) :: r,j,ps,e,h=>by
  simp only [lookD] at h
  split at h
  ·cases h; rfl
  ·exact lookD_ld h
  ·cases h

theorem lookD_det {dec dec' : List (Nat × Bool)} {base : Nat} {T : List Nat} {d : SV} : ∀ {l : List (Bool × SV)} {j : Nat} {ps : List Prop} {e e' : Eff},lookD dec base T d j l ps = .ok e → lookD dec' base T d j l ps = .ok e' →
  (∀ p,p ∈ e.ps → p) → (∀ p,p ∈ e'.ps → p) → e = e'
 | [],_,_,_,_,h,h',_,_=>by cases h; cases h'; rfl
 | (b,v) :: r,j,ps,e,e',h,h',hp,hp'=>by
  simp only [lookD] at h h'
  split at h
  ·cases h
   have hb : b = true := hp _ (by simp)
   split at h'
   ·cases h'; rfl
   ·have := hp' _ ((lookD_ok h').1 (b = false) (by simp)); rw [hb] at this; cases this
   ·cases h'
  ·have hb : b = false := hp _ ((lookD_ok h).1 (b = false) (by simp))
   split at h'
   ·cases h'
    have : b = true := hp' _ (by simp)
    rw [hb] at this; cases this
   ·exact lookD_det h h' hp hp'
   ·cases h'
  ·cases h
def Eff.wr (e : Eff) : List Nat :=
 match e.st with
 | some (K,_)=>[K]
 | none=>match e.ins with
  | some (K,_)=>[K]
  | none=>match e.out with
   | none=>[]
   | some m=>m.map (·.1) ++ e.T

def Eff.named (e : Eff) : List Nat :=
 e.v.keys ++ (match e.out with
  | none=>[]
  | some m=>Mem.named m) ++ (match e.ins with
  | none=>[]
  | some (K,_,_,v)=>K :: v.keys) ++ match e.st with
  | none=>[]
  | some (K,_,vs)=>K :: SV.keysL vs

theorem Eff.at_other {e : Eff} {k : Nat} (h : k ∉ e.wr) (o : Option OBlk) : e.at k o = o := by
 unfold Eff.at
 unfold Eff.wr at h
 cases hs : e.st with
 | some x =>
  obtain ⟨K,off,vs⟩ := x
  simp only [hs,List.mem_singleton] at h
  simp [h]
 | none =>
  simp only [hs] at h
  cases hi : e.ins with
  | some x =>
   obtain ⟨K,kd,n,v⟩ := x
   simp only [hi,List.mem_singleton] at h
   simp [h]
  | none =>
   simp only [hi] at h
   cases ho : e.out with
   | none=>rfl
   | some m =>
    simp only [ho,List.mem_append,not_or] at h
    simp only [Mem.get_none h.1,h.2,if_false,Option.none_or]
def Alike (s t : List SV × Mem) : Prop := s.1 = t.1 ∧ ∀ k,s.2.get k = t.2.get k
theorem Alike.refl (s : List SV × Mem) : Alike s s := ⟨rfl,fun _=>rfl⟩
theorem Alike.symm {s t : List SV × Mem} (h : Alike s t) : Alike t s := ⟨h.1.symm,fun k=>(h.2 k).symm⟩
theorem Alike.trans {s t u : List SV × Mem} (h : Alike s t) (h' : Alike t u) : Alike s u := ⟨h.1.trans h'.1,fun k=>(h.2 k).trans (h'.2 k)⟩

section
variable {P : Program} {cs : Ctrs} {ops : Array Oper} {depth : Nat}

theorem applyR_alike {s t : List SV × Mem} {i : Nat} {e : Eff} (h : Alike s t) : Alike (applyR ops s i e) (applyR ops t i e) := by
 refine ⟨by simp only [applyR,h.1],fun k=>?_⟩
 simp only [applyR,Eff.mem_get,h.2 k]

theorem opr_congr {ev ev' : Operand → SV} {op : Op} (h : ∀ x,x ∈ op.operands → ev x = ev' x) (m : Mem) (key : Nat) : opr P ev m key op = opr P ev' m key op := by
 have pairs : ∀ ps : Array (Nat × Operand),(∀ x,x ∈ (ps.toList.map (·.2)).toArray → ev x = ev' x) →
   (ps.toList.map fun x=>(x.1,ev x.2)) = ps.toList.map fun x=>(x.1,ev' x.2) := fun ps hp =>
  List.map_congr_left fun p hm=>by rw [hp p.2 (by simp; exact ⟨p.1,by simpa using hm⟩)]
 have vals : ∀ ps : Array (Nat × Operand),(∀ x,x ∈ (ps.toList.map (·.2)).toArray → ev x = ev' x) →
   (ps.toList.map fun x=>ev x.2) = ps.toList.map fun x=>ev' x.2 := fun ps hp =>
  List.map_congr_left fun p hm=>by rw [hp p.2 (by simp; exact ⟨p.1,by simpa using hm⟩)]
 cases op <;> simp only [Op.operands] at h <;> simp only [opr]
 case build t ps=>rw [pairs ps h]
 case buildSlice t n ps=>rw [pairs ps h,vals ps h]
 case makeFunc fn first captured =>
  cases fn with
  | func f =>
   have h1 : first.toList.map ev = first.toList.map ev' := List.map_congr_left fun x hx=>h x (by simp only [Array.mem_append]; left; simpa using hx)
   have h2 : captured.toList.map ev = captured.toList.map ev' := List.map_congr_left fun x hx=>h x (by simp only [Array.mem_append]; right; simpa using hx)
   simp only [h1,h2]
  | _=>rfl
 case call c =>
  obtain ⟨callee,args,tys⟩ := c
  simp only [Call.operands] at h
  cases callee with
  | builtin b =>
   have ha : ∀ x,x ∈ args.toList → ev x = ev' x := fun x hx=>h x (by simpa using hx)
   simp only
   unfold callB
   split
   ·rename_i x t he _; rw [he] at ha; rw [ha x (by simp)]
   ·rename_i x t he _; rw [he] at ha; rw [ha x (by simp)]
   ·rename_i s x t t' he _; rw [he] at ha; unfold appR; rw [ha s (by simp),ha x (by simp)]
   ·rename_i x t he _; rw [he] at ha; rw [ha x (by simp)]
   ·rename_i _ x y he; rw [he] at ha; rw [ha x (by simp),ha y (by simp)]
   ·rename_i _ x y he; rw [he] at ha; rw [ha x (by simp),ha y (by simp)]
   ·rfl
  | _=>rfl
 case makeMap t r=>cases r <;> rfl
 case slice t x lo hi mx =>
  have hx : ev x = ev' x := h x (by simp)
  have h1 : lo.map ev = lo.map ev' := by cases lo with | none=>rfl | some y=>simp [h y (by simp)]
  have h2 : hi.map ev = hi.map ev' := by cases hi with | none=>rfl | some y=>simp [h y (by simp)]
  have h3 : mx.map ev = mx.map ev' := by cases mx with | none=>rfl | some y=>simp [h y (by simp)]
  rw [hx,h1,h2,h3]
 all_goals (first | rfl | (simp_all; done))

theorem evS_congr {t t' : List SV} {x : Operand} (h : ∀ k,x = .tmp k → t[k]? = t'[k]?) : evS t x = evS t' x := by
 cases x with
 | tmp k=>simp only [evS,List.getD_eq_getElem?_getD,h k rfl]
 | _=>rfl
end
end Sx
end
noncomputable section
namespace Sx
open Go RowKit

section
variable {P : Program} {cs : Ctrs} {ops : Array Oper} {depth : Nat}

theorem calleeOf_congr {ev ev' : Operand → SV} {cl : Call} (h : ∀ x,x ∈ cl.operands → ev x = ev' x) : calleeOf ev cl.callee = calleeOf ev' cl.callee := by
 obtain ⟨callee,args,tys⟩ := cl
 cases callee with
 | value x =>
  simp only [calleeOf]
  rw [h x (by simp [Call.operands])]
 | _=>rfl

theorem runOp_congr {t t' : List SV} {op : Op} (h : ∀ x,x ∈ op.operands → evS t x = evS t' x) (key : Nat) (hs : Nat → D) (m : Mem) :
  runOp P cs t key hs op m = runOp P cs t' key hs op m := by
 unfold runOp
 have h0 : ∀ m key,opr P (evS t) m key op = opr P (evS t') m key op := fun m key=>opr_congr h m key
 cases hq : quickOp op with
 | true=>simp only [h0]
 | false =>
  simp only
  cases op
  case call cl =>
   have h1 := calleeOf_congr (cl := cl) (ev := evS t) (ev' := evS t') (fun x hx=>h x (by simpa [Op.operands] using hx))
   have h2 : cl.args.toList.map (evS t) = cl.args.toList.map (evS t') :=
    List.map_congr_left fun x hx=>h x (by simp only [Op.operands,Call.operands,Array.mem_append]; right; simpa using hx)
   simp only [h1,h2,h0]
  all_goals simp only [h0]

theorem keysOp_congr {t t' : List SV} {op : Op} (h : ∀ x,x ∈ op.operands → evS t x = evS t' x) : keysOp t op = keysOp t' op := by
 unfold keysOp
 split
 ·rfl
 ·rw [List.map_congr_left (g := evS t') fun x hx=>h x (by simpa using hx)]

theorem guardD_congr {dec : List (Nat × Bool)} {o : Oper} {t t' : List SV} (h : ∀ k,k ∈ usesOp ops o → t[k]? = t'[k]?) : guardD dec ops o t = guardD dec ops o t' := by
 unfold guardD
 cases hg : o.guard with
 | none=>rfl
 | some x =>
  obtain ⟨j,want⟩ := x
  simp only
  cases hd : (ops[j]?).bind (·.dst) with
  | none=>rfl
  | some k=>simp only; rw [h k (by simp [usesOp,hg,hd])]

theorem uses_eval {o : Oper} {t t' : List SV} (h : ∀ k,k ∈ usesOp ops o → t[k]? = t'[k]?) : ∀ x,x ∈ o.op.operands → evS t x = evS t' x := by
 intro x hx
 refine evS_congr fun k hk=>h k ?_
 subst hk
 exact List.mem_append_left _ (List.mem_filterMap.2 ⟨.tmp k,by simpa using hx,rfl⟩)

theorem stepR_congr {dec : List (Nat × Bool)} {hs hs' : Nat → Nat → D} {s s' : List SV × Mem} {i : Nat} {o : Oper} {e : Eff} (ho : ops[i]? = some o) (hh : hs i = hs' i)
  (ht : ∀ k,k ∈ usesOp ops o → s.1[k]? = s'.1[k]?) (h : stepR P cs ops depth dec hs s i = .ok e) (hm : ∀ k,k ∈ e.T → s.2.get k = s'.2.get k) :
  stepR P cs ops depth dec hs' s' i = .ok e := by
 have hev := uses_eval (o := o) ht
 unfold stepR at h ⊢
 simp only [ho] at h ⊢
 rw [← guardD_congr ht]
 split at h
 ·cases h
 ·cases h
 ·exact h
 ·rename_i ps hg
  split at h
  ·rename_i t x y hop
   unfold pickD at h ⊢
   have h1 : s.1[t]? = s'.1[t]? := ht t (List.mem_append_left _ (List.mem_filterMap.2 ⟨.tmp t,by rw [hop]; simp [Op.operands],rfl⟩))
   rw [hop] at hev
   rw [← h1,← hev x (by simp [Op.operands]),← hev y (by simp [Op.operands])]
   exact h
  ·rename_i t x j ok hop
   rw [hop] at hev
   have e1 : keysOp s.1 (.lookup t x j ok) = keysOp s'.1 (.lookup t x j ok) := keysOp_congr hev
   split at h
   ·rename_i l d hlk
    have e3 : pickM s.2 (keysOp s.1 (.lookup t x j ok)) = pickM s'.2 (keysOp s'.1 (.lookup t x j ok)) := by
     rw [← e1]; refine pickM_congr fun k hk=>hm k ?_
     rw [(lookD_ok h).2.1]; exact hk
    rw [← hev x (by simp [Op.operands]),← hev j (by simp [Op.operands]),← e3,hlk,← e1]
    exact h
   ·cases h
  ·rename_i t a x hop
   rw [hop] at hev
   have e0 : evS s.1 a = evS s'.1 a := hev a (by simp [Op.operands])
   have e0' : evS s.1 x = evS s'.1 x := hev x (by simp [Op.operands])
   rw [← e0,← e0']
   split at h
   ·split at h
    ·rename_i vs n ty cs h1 h2 hb
     split at h
     ·rename_i hc
      cases h
      rw [← hm _ (by simp),h1,h2,hb]
      exact if_pos hc
     ·cases h
    ·cases h
   ·have e1 : keysOp s.1 (.store t a x) = keysOp s'.1 (.store t a x) := keysOp_congr hev
    have e2 : ∀ m,runOp P cs s.1 (dstKey depth o.dst) (hs i) (.store t a x) m = runOp P cs s'.1 (dstKey depth o.dst) (hs' i) (.store t a x) m := fun m=>by rw [hh]; exact runOp_congr hev _ _ _
    split at h
    ·rename_i qs v out hr
     cases h
     have e3 : pickM s.2 (keysOp s.1 (.store t a x)) = pickM s'.2 (keysOp s'.1 (.store t a x)) := by rw [← e1]; exact pickM_congr hm
     rw [e2,e3] at hr
     simp only [hr,e1]
    ·cases h
  ·rename_i t a hop
   rw [hop] at hev
   have e0 : evS s.1 a = evS s'.1 a := hev a (by simp [Op.operands])
   have e1 : keysOp s.1 (.load t a) = keysOp s'.1 (.load t a) := keysOp_congr hev
   have e2 : ∀ m,runOp P cs s.1 (dstKey depth o.dst) (hs i) (.load t a) m = runOp P cs s'.1 (dstKey depth o.dst) (hs' i) (.load t a) m := fun m=>by rw [hh]; exact runOp_congr hev _ _ _
   split at h
   ·rename_i qs v hr
    cases h
    have e3 : pickM s.2 (keysOp s.1 (.load t a)) = pickM s'.2 (keysOp s'.1 (.load t a)) := by rw [← e1]; exact pickM_congr hm
    rw [e2,e3] at hr
    rw [hr,← e1,← e0]
   ·cases h
  ·rename_i t x j v hop
   rw [hop] at hev
   split at h
   ·rename_i K k n hins
    cases h
    obtain ⟨kt,et,es,h1,h2,h3,h4,h5,h6⟩ := insOk_spec hins
    rw [← hev x (by simp [Op.operands]),← hev j (by simp [Op.operands]),← hev v (by simp [Op.operands]),
     insOk_of h1 h2 h3 h4 (by rw [← hm K (by simp)]; exact h5) h6]
   ·cases h
  ·rename_i hnp
   have e1 : keysOp s.1 o.op = keysOp s'.1 o.op := keysOp_congr hev
   have e2 : ∀ m,runOp P cs s.1 (dstKey depth o.dst) (hs i) o.op m = runOp P cs s'.1 (dstKey depth o.dst) (hs' i) o.op m := fun m=>by rw [hh]; exact runOp_congr hev _ _ _
   split at h
   ·rename_i qs v out hr
    cases h
    have e3 : pickM s.2 (keysOp s.1 o.op) = pickM s'.2 (keysOp s'.1 o.op) := by rw [← e1]; exact pickM_congr hm
    rw [e2,e3] at hr
    simp only [hr,e1]
   ·cases h

theorem putS_get {tmps : List SV} {d : Option Tmp} {v : SV} {t : Nat} (h : ∀ k,d = some k → k ≠ t) : (putS tmps d v)[t]? = tmps[t]? := by
 cases d with
 | none=>rfl
 | some k=>simp only [putS]; rw [List.getElem?_set_ne (h k rfl)]

theorem putS_comm {tmps : List SV} {a b : Option Tmp} {v u : SV} (h : ∀ k,a = some k → b ≠ some k) : putS (putS tmps a v) b u = putS (putS tmps b u) a v := by
 cases a with
 | none=>rfl
 | some k =>
  cases b with
  | none=>rfl
  | some j =>
   simp only [putS]
   exact List.set_comm _ _ fun e=>h k rfl (by rw [e])
theorem applyR_get {s : List SV × Mem} {i : Nat} {e : Eff} {k : Nat} (h : k ∉ e.wr) : (applyR ops s i e).2.get k = s.2.get k := by
 simp only [applyR,Eff.mem_get,Eff.at_other h]

def usesAt (ops : Array Oper) (i : Nat) : List Nat :=
 match ops[i]? with
 | some o=>usesOp ops o
 | none=>[]
def Apart (o n o' n' : Nat) : Prop := o + n ≤ o' ∨ o' + n' ≤ o
def CellApart (ei ej : Eff) : Prop :=
 (∃ K o n o' vs,ei.ld = some (K,o,n) ∧ ej.st = some (K,o',vs) ∧ Apart o n o' vs.length ∧ 0 < n) ∨
 (∃ K o vs o' n',ei.st = some (K,o,vs) ∧ ej.ld = some (K,o',n') ∧ Apart o vs.length o' n' ∧ 0 < n') ∨
 (∃ K o vs o' vs',ei.st = some (K,o,vs) ∧ ej.st = some (K,o',vs') ∧ Apart o vs.length o' vs'.length)
structure Indep (ops : Array Oper) (i j : Nat) (ei ej : Eff) : Prop where
 dij : ∀ k,dstOf ops i = some k → k ∉ usesAt ops j ∧ dstOf ops j ≠ some k
 dji : ∀ k,dstOf ops j = some k → k ∉ usesAt ops i
 mem : ((∀ k,k ∈ ei.wr → k ∉ ej.T ∧ k ∉ ej.wr) ∧ (∀ k,k ∈ ej.wr → k ∉ ei.T)) ∨ (∃ K x y,ei.ins = some (K,x) ∧ ej.ins = some (K,y)) ∨ CellApart ei ej

theorem stepR_some {dec : List (Nat × Bool)} {hs : Nat → Nat → D} {s : List SV × Mem} {i : Nat} {e : Eff} (h : stepR P cs ops depth dec hs s i = .ok e) : ∃ o,ops[i]? = some o := by
 unfold stepR at h
 split at h
 ·cases h
 ·rename_i o ho; exact ⟨o,ho⟩

theorem stepR_frame {dec : List (Nat × Bool)} {hs : Nat → Nat → D} {s : List SV × Mem} {i j : Nat} {ei ej : Eff} (hd : ∀ k,dstOf ops j = some k → k ∉ usesAt ops i)
  (hw : ∀ k,k ∈ ej.wr → k ∉ ei.T) : stepR P cs ops depth dec hs (applyR ops s j ej) i = .ok ei ↔ stepR P cs ops depth dec hs s i = .ok ei := by
 have t1 : ∀ o,ops[i]? = some o → ∀ k,k ∈ usesOp ops o → (applyR ops s j ej).1[k]? = s.1[k]? := by
  intro o ho k hk
  refine putS_get fun q hq e=>?_
  subst e
  exact hd q hq (by simpa [usesAt,ho] using hk)
 have t2 : ∀ k,k ∈ ei.T → (applyR ops s j ej).2.get k = s.2.get k := fun k hk=>applyR_get fun hkw=>hw k hkw hk
 constructor
 ·intro h
  obtain ⟨o,ho⟩ := stepR_some h
  exact stepR_congr ho rfl (t1 o ho) h t2
 ·intro h
  obtain ⟨o,ho⟩ := stepR_some h
  exact stepR_congr ho rfl (fun k hk=>(t1 o ho k hk).symm) h fun k hk=>(t2 k hk).symm

theorem swap_alike {s : List SV × Mem} {i j : Nat} {ei ej : Eff} (hd : ∀ k,dstOf ops i = some k → dstOf ops j ≠ some k) (h : ∀ k o,ej.at k (ei.at k o) = ei.at k (ej.at k o)) :
  Alike (applyR ops (applyR ops s i ei) j ej) (applyR ops (applyR ops s j ej) i ei) := by
 refine ⟨?_,fun k=>?_⟩
 ·simp only [applyR]
  exact putS_comm fun k hk=>hd k hk
 ·simp only [applyR,Eff.mem_get,h]

theorem at_comm {ei ej : Eff} (h : ∀ k,k ∈ ei.wr → k ∉ ej.wr) (k : Nat) (o : Option OBlk) : ej.at k (ei.at k o) = ei.at k (ej.at k o) := by
 by_cases hi : k ∈ ei.wr
 ·rw [Eff.at_other (h k hi),Eff.at_other (h k hi)]
 ·rw [Eff.at_other hi,Eff.at_other hi]
theorem stepR_ins {dec : List (Nat × Bool)} {hs : Nat → Nat → D} {s : List SV × Mem} {i : Nat} {e : Eff} {K : Nat} {x : IntKind × Int × SV} (h : stepR P cs ops depth dec hs s i = .ok e) (hi : e.ins = some (K,x)) :
  ∃ o t a b c ps,ops[i]? = some o ∧ o.op = .insert t a b c ∧ guardD dec ops o s.1 = .yes ps ∧ insOk P s.2 t (evS s.1 a) (evS s.1 b) = some (K,x.1,x.2.1) ∧
   e = ⟨ps,.undef,[K],none,some (K,x.1,x.2.1,evS s.1 c),none,none⟩ := by
 unfold stepR at h
 split at h
 ·cases h
 ·rename_i o ho
  split at h
  ·cases h
  ·cases h
  ·cases h; cases hi
  ·rename_i ps hg
   split at h
   ·unfold pickD at h
    split at h
    ·cases h; cases hi
    ·split at h
     ·cases h; cases hi
     ·cases h
    ·cases h
   ·split at h
    ·have := (lookD_ok h).2.2.1.2.1; rw [hi] at this; cases this
    ·cases h
   ·split at h
    ·split at h
     ·split at h
      ·cases h; cases hi
      ·cases h
     ·cases h
    ·split at h
     ·cases h; cases hi
     ·cases h
   ·split at h
    ·cases h; cases hi
    ·cases h
   ·rename_i t a b c hop
    split at h
    ·rename_i K' k n hins
     cases h
     cases hi
     exact ⟨o,t,a,b,c,ps,ho,hop,hg,hins,rfl⟩
    ·cases h
   ·split at h
    ·cases h; cases hi
    ·cases h

theorem stepR_of_ins {dec : List (Nat × Bool)} {hs : Nat → Nat → D} {s : List SV × Mem} {i : Nat} {o : Oper} {t : TypeId} {a b c : Operand} {ps : List Prop} {K : Nat} {k : IntKind} {n : Int}
  (ho : ops[i]? = some o) (hop : o.op = .insert t a b c) (hg : guardD dec ops o s.1 = .yes ps) (hins : insOk P s.2 t (evS s.1 a) (evS s.1 b) = some (K,k,n)) :
  stepR P cs ops depth dec hs s i = .ok ⟨ps,.undef,[K],none,some (K,k,n,evS s.1 c),none,none⟩ := by
 unfold stepR
 simp only [ho,hg,hop,hins]
theorem ins_swap {dec : List (Nat × Bool)} {hs : Nat → Nat → D} {s : List SV × Mem} {i j : Nat} {ei ej : Eff} {K : Nat} {x y : IntKind × Int × SV}
  (dij : ∀ k,dstOf ops i = some k → k ∉ usesAt ops j) (dji : ∀ k,dstOf ops j = some k → k ∉ usesAt ops i) (hxi : ei.ins = some (K,x)) (hyj : ej.ins = some (K,y))
  (h1 : stepR P cs ops depth dec hs s i = .ok ei) (h2 : stepR P cs ops depth dec hs (applyR ops s i ei) j = .ok ej) :
  stepR P cs ops depth dec hs s j = .ok ej ∧ stepR P cs ops depth dec hs (applyR ops s j ej) i = .ok ei ∧ ∀ k o,ej.at k (ei.at k o) = ei.at k (ej.at k o) := by
 obtain ⟨o1,t1,a1,b1,c1,p1,ho1,hop1,hg1,hi1,he1⟩ := stepR_ins h1 hxi
 obtain ⟨o2,t2,a2,b2,c2,p2,ho2,hop2,hg2,hi2,he2⟩ := stepR_ins h2 hyj
 have u2 : ∀ k,k ∈ usesOp ops o2 → (applyR ops s i ei).1[k]? = s.1[k]? := fun k hk=>by
  refine putS_get fun q hq e=>?_
  subst e
  exact dij q hq (by simpa [usesAt,ho2] using hk)
 have u1 : ∀ k,k ∈ usesOp ops o1 → (applyR ops s j ej).1[k]? = s.1[k]? := fun k hk=>by
  refine putS_get fun q hq e=>?_
  subst e
  exact dji q hq (by simpa [usesAt,ho1] using hk)
 have v2 := uses_eval (o := o2) u2
 have v1 := uses_eval (o := o1) u1
 rw [hop2] at v2
 rw [hop1] at v1
 rw [guardD_congr u2] at hg2
 rw [v2 a2 (by simp [Op.operands]),v2 b2 (by simp [Op.operands])] at hi2
 rw [v2 c2 (by simp [Op.operands])] at he2
 obtain ⟨kt1,et1,es1,q1,q2,q3,q4,q5,q6⟩ := insOk_spec hi1
 obtain ⟨kt2,et2,es2,r1,r2,r3,r4,r5,r6⟩ := insOk_spec hi2
 have hmem : (applyR ops s i ei).2.get K = some (.map (insE x.1 x.2.1 (evS s.1 c1) es1)) := by
  simp only [applyR,Eff.mem_get,Eff.at,he1,if_true,q5,Option.map_some,insO]
 rw [hmem] at r5
 cases r5
 obtain ⟨⟨w1,w2⟩,w3⟩ := newK_ins.1 r6
 have s2 : stepR P cs ops depth dec hs s j = .ok ej := by
  rw [he2]
  exact stepR_of_ins ho2 hop2 hg2 (insOk_of r1 r2 r3 r4 q5 w3)
 have hmem2 : (applyR ops s j ej).2.get K = some (.map (insE y.1 y.2.1 (evS s.1 c2) es1)) := by
  simp only [applyR,Eff.mem_get,Eff.at,he2,if_true,q5,Option.map_some,insO]
 refine ⟨s2,?_,fun k o=>?_⟩
 ·rw [he1,← v1 c1 (by simp [Op.operands])]
  refine stepR_of_ins ho1 hop1 (by rw [guardD_congr u1]; exact hg1) (insOk_of q1 q2 ?_ ?_ hmem2 (newK_ins.2 ⟨⟨w1.symm,Ne.symm w2⟩,q6⟩))
  ·rw [v1 a1 (by simp [Op.operands])]; exact q3
  ·rw [v1 b1 (by simp [Op.operands])]; exact q4
 ·simp only [Eff.at,he1,he2]
  split
  ·cases o with
   | none=>rfl
   | some ob =>
    cases ob with
    | map es=>simp only [Option.map_some,insO]; rw [insE_comm w2]
    | _=>rfl
  ·rfl
theorem stepR_st {dec : List (Nat × Bool)} {hs : Nat → Nat → D} {s : List SV × Mem} {i : Nat} {e : Eff} {K off : Nat} {vs : List SV} (h : stepR P cs ops depth dec hs s i = .ok e) (hi : e.st = some (K,off,vs)) :
  ∃ o t a x ps n ty cs',ops[i]? = some o ∧ o.op = .store t a x ∧ guardD dec ops o s.1 = .yes ps ∧ evS s.1 a = .ptr K off ∧ (evS s.1 x).cells? = some vs ∧ sizeT P t = some n ∧
   s.2.get K = some (.cells ty cs') ∧ (vs.length = n ∧ off + n ≤ cs'.length ∧ vs.all SV.one = true) ∧ e = ⟨ps,.undef,[K],none,none,some (K,off,vs),none⟩ := by
 unfold stepR at h
 split at h
 ·cases h
 ·rename_i o ho
  split at h
  ·cases h
  ·cases h
  ·cases h; cases hi
  ·rename_i ps hg
   split at h
   ·unfold pickD at h
    split at h
    ·cases h; cases hi
    ·split at h
     ·cases h; cases hi
     ·cases h
    ·cases h
   ·split at h
    ·have := (lookD_ok h).2.2.1.2.2; rw [hi] at this; cases this
    ·cases h
   ·rename_i t a x hop
    split at h
    ·rename_i K' off' ha
     split at h
     ·rename_i vs' n ty cs' h1 h2 h3
      split at h
      ·rename_i hc
       cases h
       cases hi
       exact ⟨o,t,a,x,ps,n,ty,cs',ho,hop,hg,ha,h1,h2,h3,hc,rfl⟩
      ·cases h
     ·cases h
    ·split at h
     ·cases h; cases hi
     ·cases h
   ·split at h
    ·cases h; cases hi
    ·cases h
   ·split at h
    ·cases h; cases hi
    ·cases h
   ·split at h
    ·cases h; cases hi
    ·cases h

theorem stepR_of_st {dec : List (Nat × Bool)} {hs : Nat → Nat → D} {s : List SV × Mem} {i : Nat} {o : Oper} {t : TypeId} {a x : Operand} {ps : List Prop} {K off n : Nat} {vs : List SV} {ty : TypeId} {cs' : List SV}
  (ho : ops[i]? = some o) (hop : o.op = .store t a x) (hg : guardD dec ops o s.1 = .yes ps) (ha : evS s.1 a = .ptr K off) (hx : (evS s.1 x).cells? = some vs) (hn : sizeT P t = some n)
  (hm : s.2.get K = some (.cells ty cs')) (hc : vs.length = n ∧ off + n ≤ cs'.length ∧ vs.all SV.one = true) : stepR P cs ops depth dec hs s i = .ok ⟨ps,.undef,[K],none,none,some (K,off,vs),none⟩ := by
 unfold stepR
 simp only [ho,hg,hop,ha,hx,hn,hm]
 rw [if_pos hc]
theorem stepR_ld {dec : List (Nat × Bool)} {hs : Nat → Nat → D} {s : List SV × Mem} {i : Nat} {e : Eff} {K off n : Nat} (h : stepR P cs ops depth dec hs s i = .ok e) (hi : e.ld = some (K,off,n)) :
  ∃ o t a ps qs v ty cs',ops[i]? = some o ∧ o.op = .load t a ∧ guardD dec ops o s.1 = .yes ps ∧ evS s.1 a = .ptr K off ∧ sizeT P t = some n ∧ s.2.get K = some (.cells ty cs') ∧
   (∃ b,aggT P t = some b ∧ qs = [] ∧ match b with
    | true=>off + n ≤ cs'.length ∧ v = .agg ((cs'.drop off).take n)
    | false=>cs'[off]? = some v) ∧ e = ⟨ps ++ qs,v,[K],none,none,none,some (K,off,n)⟩ := by
 unfold stepR at h
 split at h
 ·cases h
 ·rename_i o ho
  split at h
  ·cases h
  ·cases h
  ·cases h; cases hi
  ·rename_i ps hg
   split at h
   ·unfold pickD at h
    split at h
    ·cases h; cases hi
    ·split at h
     ·cases h; cases hi
     ·cases h
    ·cases h
   ·split at h
    ·have := lookD_ld h; rw [hi] at this; cases this
    ·cases h
   ·split at h
    ·split at h
     ·split at h
      ·cases h; cases hi
      ·cases h
     ·cases h
    ·split at h
     ·cases h; cases hi
     ·cases h
   ·rename_i t a hop
    split at h
    ·rename_i qs v hr
     cases h
     simp only at hi
     split at hi
     ·rename_i K' off' n' ha hn
      cases hi
      have hT : keysOp s.1 (.load t a) = [K] := by simp [keysOp,memless,Op.operands,SV.keysL,ha,SV.keys,addNs,addN]
      rw [hT] at hr
      simp only [runOp,quickOp,opr,ha] at hr
      cases hg2 : s.2.get K with
      | none=>simp [pickM,hg2,loadR,Mem.get] at hr
      | some ob =>
       cases ob with
       | cells ty cs' =>
        refine ⟨o,t,a,ps,qs,v,ty,cs',ho,hop,hg,ha,hn,rfl,?_,by rw [hT]⟩
        simp only [pickM,List.filterMap_cons,hg2,Option.map_some,List.filterMap_nil,loadR,Mem.get,beq_self_eq_true,if_true,hn] at hr
        cases hb : aggT P t with
        | none=>simp [hb] at hr
        | some b =>
         refine ⟨b,rfl,?_⟩
         cases b with
         | true =>
          simp only [hb] at hr
          split at hr
          ·rename_i ps' v' m' he
           split at he
           ·rename_i qs' u hv
            cases he
            split at hv
            ·rename_i hle
             cases hv; cases hr
             exact ⟨rfl,hle,rfl⟩
            ·cases hv
           ·cases he
          ·cases hr
         | false =>
          simp only [hb] at hr
          split at hr
          ·rename_i ps' v' m' he
           split at he
           ·rename_i qs' u hv
            cases he
            split at hv
            ·rename_i z hz
             cases hv; cases hr
             exact ⟨rfl,hz⟩
            ·cases hv
           ·cases he
          ·cases hr
       | _=>simp [pickM,hg2,loadR,Mem.get] at hr
     ·cases hi
    ·cases h
   ·split at h
    ·cases h; cases hi
    ·cases h
   ·split at h
    ·cases h; cases hi
    ·cases h

theorem stepR_of_ld {dec : List (Nat × Bool)} {hs : Nat → Nat → D} {s : List SV × Mem} {i : Nat} {o : Oper} {t : TypeId} {a : Operand} {ps : List Prop} {K off n : Nat} {v : SV} {ty : TypeId} {cs' : List SV} {b : Bool}
  (ho : ops[i]? = some o) (hop : o.op = .load t a) (hg : guardD dec ops o s.1 = .yes ps) (ha : evS s.1 a = .ptr K off) (hn : sizeT P t = some n)
  (hm : s.2.get K = some (.cells ty cs')) (hb : aggT P t = some b) (hv : match b with
    | true=>off + n ≤ cs'.length ∧ v = .agg ((cs'.drop off).take n)
    | false=>cs'[off]? = some v) : stepR P cs ops depth dec hs s i = .ok ⟨ps ++ [],v,[K],none,none,none,some (K,off,n)⟩ := by
 have hT : keysOp s.1 (.load t a) = [K] := by simp [keysOp,memless,Op.operands,SV.keysL,ha,SV.keys,addNs,addN]
 have hr : runOp P cs s.1 (dstKey depth o.dst) (hs i) (.load t a) (pickM s.2 [K]) = some ([],v,none) := by
  simp only [runOp,quickOp,opr,ha,pickM,List.filterMap_cons,hm,Option.map_some,List.filterMap_nil,loadR,Mem.get,beq_self_eq_true,if_true,hn,hb]
  cases b with
  | true=>simp only at hv; simp only [hv.1,if_true,hv.2]
  | false=>simp only at hv; simp only [hv]
 unfold stepR
 simp only [ho,hg,hop,hT,hr,ha,hn]
theorem splice_apart {cs vs : List SV} {o' : Nat} (hle : o' + vs.length ≤ cs.length) :
  (cs.take o' ++ vs ++ cs.drop (o' + vs.length)).length = cs.length ∧ ∀ k,(k < o' ∨ o' + vs.length ≤ k) → (cs.take o' ++ vs ++ cs.drop (o' + vs.length))[k]? = cs[k]? := by
 refine ⟨by simp; omega,fun k hk=>?_⟩
 rw [splice_get _ _ _ _ _ (by omega)]
 rcases hk with hk | hk
 ·rw [if_pos hk]
 ·rw [if_neg (by omega),if_neg (by omega)]
  congr 1; omega

theorem range_same {cs cs' : List SV} {off n : Nat} (h : ∀ k,off ≤ k → k < off + n → cs'[k]? = cs[k]?) : (cs'.drop off).take n = (cs.drop off).take n := by
 apply List.ext_getElem?
 intro k
 rw [List.getElem?_take,List.getElem?_take]
 split
 ·rw [List.getElem?_drop,List.getElem?_drop]
  exact h _ (by omega) (by omega)
 ·rfl
theorem ld_st {dec : List (Nat × Bool)} {hs : Nat → Nat → D} {s : List SV × Mem} {i j : Nat} {ei ej : Eff} {K o n o' : Nat} {vs : List SV} (dji : ∀ k,dstOf ops j = some k → k ∉ usesAt ops i)
  (hi : ei.ld = some (K,o,n)) (hj : ej.st = some (K,o',vs)) (hap : Apart o n o' vs.length) (hn : 0 < n) {ty : TypeId} {cs' : List SV} (hm : s.2.get K = some (.cells ty cs')) (hle : o' + vs.length ≤ cs'.length) :
  stepR P cs ops depth dec hs s i = .ok ei ↔ stepR P cs ops depth dec hs (applyR ops s j ej) i = .ok ei := by
 have hm2 : (applyR ops s j ej).2.get K = some (.cells ty (cs'.take o' ++ vs ++ cs'.drop (o' + vs.length))) := by
  simp only [applyR,Eff.mem_get,Eff.at,hj,if_true,hm,Option.map_some,updC]
 obtain ⟨l1,l2⟩ := splice_apart hle
 have same : ∀ k,o ≤ k → k < o + n → (cs'.take o' ++ vs ++ cs'.drop (o' + vs.length))[k]? = cs'[k]? := fun k h1 h2=>l2 k (by rcases hap with h | h <;> omega)
 have u : ∀ q,ops[i]? = some q → ∀ k,k ∈ usesOp ops q → (applyR ops s j ej).1[k]? = s.1[k]? := fun q hq k hk=>by
  refine putS_get fun z hz e=>?_
  subst e
  exact dji z hz (by simpa [usesAt,hq] using hk)
 constructor
 ·intro h
  obtain ⟨q,t,a,ps,qs,v,ty',cs2,ho,hop,hg,ha,hsz,hm',⟨b,hb,rfl,hv⟩,he⟩ := stepR_ld h hi
  rw [hm] at hm'
  cases hm'
  rw [he]
  have uq := u q ho
  have ue := uses_eval (o := q) uq
  rw [hop] at ue
  refine stepR_of_ld ho hop (by rw [guardD_congr uq]; exact hg) (by rw [ue a (by simp [Op.operands])]; exact ha) hsz hm2 hb ?_
  cases b with
  | true=>exact ⟨by rw [l1]; exact hv.1,by rw [range_same same]; exact hv.2⟩
  | false=>simp only at hv ⊢; rw [same o (Nat.le_refl _) (by omega)]; exact hv
 ·intro h
  obtain ⟨q,t,a,ps,qs,v,ty',cs2,ho,hop,hg,ha,hsz,hm',⟨b,hb,rfl,hv⟩,he⟩ := stepR_ld h hi
  rw [hm2] at hm'
  cases hm'
  rw [he]
  have uq := u q ho
  have ue := uses_eval (o := q) uq
  rw [hop] at ue
  refine stepR_of_ld ho hop (by rw [← guardD_congr uq]; exact hg) (by rw [← ue a (by simp [Op.operands])]; exact ha) hsz hm hb ?_
  cases b with
  | true=>exact ⟨by have := hv.1; rw [l1] at this; exact this,by rw [← range_same same]; exact hv.2⟩
  | false=>simp only at hv ⊢; rw [← same o (Nat.le_refl _) (by omega)]; exact hv
theorem updC_comm {o o' : Nat} {vs vs' : List SV} {ty : TypeId} {cs : List SV} (h : Apart o vs.length o' vs'.length) (h1 : o + vs.length ≤ cs.length) (h2 : o' + vs'.length ≤ cs.length) :
  updC o' vs' (updC o vs (.cells ty cs)) = updC o vs (updC o' vs' (.cells ty cs)) := by
 obtain ⟨a1,a2⟩ := splice_apart h1
 obtain ⟨b1,b2⟩ := splice_apart h2
 simp only [updC]
 congr 1
 apply List.ext_getElem?
 intro k
 have sp : ∀ (l : List SV) (q : Nat) (us : List SV),q + us.length ≤ l.length → (l.take q ++ us ++ l.drop (q + us.length))[k]? = if k < q then l[k]? else if k < q + us.length then us[k - q]? else l[k]? := by
  intro l q us hl
  rw [splice_get _ _ _ _ _ (by omega)]
  split
  ·rfl
  ·split
   ·rfl
   ·rw [show k - (q + us.length) + (q + us.length) = k from by omega]
 rw [sp (cs.take o ++ vs ++ cs.drop (o + vs.length)) o' vs' (by rw [a1]; exact h2),sp (cs.take o' ++ vs' ++ cs.drop (o' + vs'.length)) o vs (by rw [b1]; exact h1),sp cs o vs h1,sp cs o' vs' h2]
 rcases h with h | h
 ·by_cases c1 : k < o <;> by_cases c2 : k < o + vs.length <;> by_cases c3 : k < o' <;> by_cases c4 : k < o' + vs'.length <;> simp only [c1,c2,c3,c4,if_true,if_false] <;> omega
 ·by_cases c1 : k < o <;> by_cases c2 : k < o + vs.length <;> by_cases c3 : k < o' <;> by_cases c4 : k < o' + vs'.length <;> simp only [c1,c2,c3,c4,if_true,if_false] <;> omega

theorem st_swap {dec : List (Nat × Bool)} {hs : Nat → Nat → D} {s : List SV × Mem} {i j : Nat} {ei ej : Eff} {K o o' : Nat} {vs vs' : List SV}
  (dij : ∀ k,dstOf ops i = some k → k ∉ usesAt ops j) (dji : ∀ k,dstOf ops j = some k → k ∉ usesAt ops i) (hi : ei.st = some (K,o,vs)) (hj : ej.st = some (K,o',vs')) (hap : Apart o vs.length o' vs'.length)
  (h1 : stepR P cs ops depth dec hs s i = .ok ei) (h2 : stepR P cs ops depth dec hs (applyR ops s i ei) j = .ok ej) :
  stepR P cs ops depth dec hs s j = .ok ej ∧ stepR P cs ops depth dec hs (applyR ops s j ej) i = .ok ei ∧ Alike (applyR ops (applyR ops s i ei) j ej) (applyR ops (applyR ops s j ej) i ei) := by
 obtain ⟨p,t,a,x,ps,n,ty,cs1,ho,hop,hg,ha,hx,hn,hm,hc,he⟩ := stepR_st h1 hi
 obtain ⟨p',t',a',x',ps',n',ty',cs2,ho',hop',hg',ha',hx',hn',hm',hc',he'⟩ := stepR_st h2 hj
 have hm2 : (applyR ops s i ei).2.get K = some (.cells ty (cs1.take o ++ vs ++ cs1.drop (o + vs.length))) := by
  simp only [applyR,Eff.mem_get,Eff.at,hi,if_true,hm,Option.map_some,updC]
 rw [hm2] at hm'
 cases hm'
 obtain ⟨l1,_⟩ := splice_apart (cs := cs1) (vs := vs) (o' := o) (by rw [hc.1]; exact hc.2.1)
 have u' : ∀ k,k ∈ usesOp ops p' → (applyR ops s i ei).1[k]? = s.1[k]? := fun k hk=>by
  refine putS_get fun z hz e=>?_
  subst e
  exact dij z hz (by simpa [usesAt,ho'] using hk)
 have u : ∀ k,k ∈ usesOp ops p → (applyR ops s j ej).1[k]? = s.1[k]? := fun k hk=>by
  refine putS_get fun z hz e=>?_
  subst e
  exact dji z hz (by simpa [usesAt,ho] using hk)
 have ue' := uses_eval (o := p') u'
 have ue := uses_eval (o := p) u
 rw [hop'] at ue'
 rw [hop] at ue
 have hle' : o' + n' ≤ cs1.length := by have := hc'.2.1; rw [l1] at this; exact this
 have s2 : stepR P cs ops depth dec hs s j = .ok ej := by
  rw [he']
  exact stepR_of_st ho' hop' (by rw [← guardD_congr u']; exact hg') (by rw [← ue' a' (by simp [Op.operands])]; exact ha') (by rw [← ue' x' (by simp [Op.operands])]; exact hx') hn' hm ⟨hc'.1,hle',hc'.2.2⟩
 obtain ⟨k1,_⟩ := splice_apart (cs := cs1) (vs := vs') (o' := o') (by rw [hc'.1]; exact hle')
 have hm3 : (applyR ops s j ej).2.get K = some (.cells ty (cs1.take o' ++ vs' ++ cs1.drop (o' + vs'.length))) := by
  simp only [applyR,Eff.mem_get,Eff.at,hj,if_true,hm,Option.map_some,updC]
 refine ⟨s2,?_,?_,fun k=>?_⟩
 ·rw [he]
  exact stepR_of_st ho hop (by rw [guardD_congr u]; exact hg) (by rw [ue a (by simp [Op.operands])]; exact ha) (by rw [ue x (by simp [Op.operands])]; exact hx) hn hm3 ⟨hc.1,by rw [k1]; exact hc.2.1,hc.2.2⟩
 ·simp only [applyR]
  rw [he,he']
  have d1 : ∀ (l : List SV) (d : Option Tmp),putS (putS l (dstOf ops i) .undef) (dstOf ops j) .undef = putS (putS l (dstOf ops j) .undef) (dstOf ops i) .undef := by
   intro l _
   cases dstOf ops i with
   | none=>rfl
   | some q =>
    cases dstOf ops j with
    | none=>rfl
    | some z =>
     simp only [putS]
     by_cases hqz : q = z
     ·subst hqz; rfl
     ·exact List.set_comm _ _ hqz
  exact d1 _ none
 ·simp only [applyR,Eff.mem_get,Eff.at,hi,hj]
  split
  ·rename_i hk
   subst hk
   rw [hm]
   simp only [Option.map_some]
   rw [updC_comm hap (by rw [hc.1]; exact hc.2.1) (by rw [hc'.1]; exact hle')]
  ·rfl
def Goes (P : Program) (cs : Ctrs) (ops : Array Oper) (depth : Nat) (dec : List (Nat × Bool)) (hs : Nat → Nat → D) (r : Nat → Eff) : List Nat → List SV × Mem → Prop
 | [],_=>True
 | i :: l,s=>stepR P cs ops depth dec hs s i = .ok (r i) ∧ Goes P cs ops depth dec hs r l (applyR ops s i (r i))

def allR (ops : Array Oper) (r : Nat → Eff) : List Nat → List SV × Mem → List SV × Mem
 | [],s=>s
 | i :: l,s=>allR ops r l (applyR ops s i (r i))

theorem allR_append {r : Nat → Eff} : ∀ {l l' : List Nat} {s : List SV × Mem},allR ops r (l ++ l') s = allR ops r l' (allR ops r l s)
 | [],_,_=>rfl
 | i :: l,l',s=>by simp only [List.cons_append,allR]; exact allR_append

theorem goes_append {dec : List (Nat × Bool)} {hs : Nat → Nat → D} {r : Nat → Eff} : ∀ {l l' : List Nat} {s : List SV × Mem},
  Goes P cs ops depth dec hs r (l ++ l') s ↔ Goes P cs ops depth dec hs r l s ∧ Goes P cs ops depth dec hs r l' (allR ops r l s)
 | [],_,_=>by simp [Goes,allR]
 | i :: l,l',s=>by simp only [List.cons_append,Goes,allR,goes_append (l := l),and_assoc]

theorem allR_alike {r : Nat → Eff} : ∀ {l : List Nat} {s t : List SV × Mem},Alike s t → Alike (allR ops r l s) (allR ops r l t)
 | [],_,_,h=>h
 | i :: l,s,t,h=>allR_alike (l := l) (applyR_alike h)

theorem goes_alike {dec : List (Nat × Bool)} {hs : Nat → Nat → D} {r : Nat → Eff} : ∀ {l : List Nat} {s t : List SV × Mem},Alike s t → Goes P cs ops depth dec hs r l s → Goes P cs ops depth dec hs r l t
 | [],_,_,_,_=>trivial
 | i :: l,s,t,h,⟨h1,h2⟩=>by
  obtain ⟨o,ho⟩ := stepR_some h1
  exact ⟨stepR_congr ho rfl (fun k _=>by rw [h.1]) h1 fun k _=>h.2 k,goes_alike (applyR_alike h) h2⟩
theorem goes_swap {dec : List (Nat × Bool)} {hs : Nat → Nat → D} {r : Nat → Eff} {i j : Nat} {l : List Nat} {s : List SV × Mem} (h : Indep ops i j (r i) (r j))
  (hg : Goes P cs ops depth dec hs r (i :: j :: l) s) : Goes P cs ops depth dec hs r (j :: i :: l) s ∧ Alike (allR ops r (i :: j :: l) s) (allR ops r (j :: i :: l) s) := by
 obtain ⟨h1,h2,h3⟩ := hg
 obtain ⟨dij,dji,hm⟩ := h
 rcases hm with ⟨wij,wji⟩ | ⟨K,x,y,hx,hy⟩ | hcell
 ·have hsw := swap_alike (ops := ops) (s := s) (i := i) (j := j) (ei := r i) (ej := r j) (fun k hk=>(dij k hk).2) (at_comm fun k hk=>(wij k hk).2)
  exact ⟨⟨(stepR_frame (fun k hk=>(dij k hk).1) (fun k hk=>(wij k hk).1)).1 h2,(stepR_frame dji wji).2 h1,goes_alike hsw h3⟩,allR_alike hsw⟩
 ·obtain ⟨s2,s1,hc⟩ := ins_swap (fun k hk=>(dij k hk).1) dji hx hy h1 h2
  have hsw := swap_alike (ops := ops) (s := s) (i := i) (j := j) (ei := r i) (ej := r j) (fun k hk=>(dij k hk).2) hc
  exact ⟨⟨s2,s1,goes_alike hsw h3⟩,allR_alike hsw⟩
 ·have quiet : ∀ {e : Eff} {s : List SV × Mem} {i : Nat} {K o n : Nat},stepR P cs ops depth dec hs s i = .ok e → e.ld = some (K,o,n) → e.wr = [] := fun h hl=>by
   obtain ⟨_,_,_,_,_,_,_,_,_,_,_,_,_,_,_,he⟩ := stepR_ld h hl
   rw [he]; rfl
  rcases hcell with ⟨K,o,n,o',vs,hl,hst,hap,hn⟩ | ⟨K,o,vs,o',n',hst,hl,hap,hn⟩ | ⟨K,o,vs,o',vs',hst,hst',hap⟩
  ·have hw := quiet h1 hl
   have s2 : stepR P cs ops depth dec hs s j = .ok (r j) := (stepR_frame (fun k hk=>(dij k hk).1) (fun k hk=>by rw [hw] at hk; cases hk)).1 h2
   obtain ⟨_,_,_,_,_,n2,ty,cs',_,_,_,_,_,_,hm,hc,_⟩ := stepR_st s2 hst
   have s1 := (ld_st (cs := cs) (dec := dec) (hs := hs) dji hl hst hap hn hm (by rw [hc.1]; exact hc.2.1)).1 h1
   have hsw := swap_alike (ops := ops) (s := s) (i := i) (j := j) (ei := r i) (ej := r j) (fun k hk=>(dij k hk).2) (at_comm fun k hk=>by rw [hw] at hk; cases hk)
   exact ⟨⟨s2,s1,goes_alike hsw h3⟩,allR_alike hsw⟩
  ·obtain ⟨_,_,_,_,_,n2,ty,cs',_,_,_,_,_,_,hm,hc,_⟩ := stepR_st h1 hst
   have hap' : Apart o' n' o vs.length := hap.symm
   have s2 := (ld_st (cs := cs) (dec := dec) (hs := hs) (s := s) (i := j) (j := i) (fun k hk=>(dij k hk).1) hl hst hap' hn hm (by rw [hc.1]; exact hc.2.1)).2 h2
   have hw := quiet s2 hl
   have s1 : stepR P cs ops depth dec hs (applyR ops s j (r j)) i = .ok (r i) := (stepR_frame dji (fun k hk=>by rw [hw] at hk; cases hk)).2 h1
   have hsw := swap_alike (ops := ops) (s := s) (i := i) (j := j) (ei := r i) (ej := r j) (fun k hk=>(dij k hk).2) (at_comm fun k _ hk=>by rw [hw] at hk; cases hk)
   exact ⟨⟨s2,s1,goes_alike hsw h3⟩,allR_alike hsw⟩
  ·obtain ⟨s2,s1,hsw⟩ := st_swap (fun k hk=>(dij k hk).1) dji hst hst' hap h1 h2
   exact ⟨⟨s2,s1,goes_alike hsw h3⟩,allR_alike hsw⟩
theorem goes_front {dec : List (Nat × Bool)} {hs : Nat → Nat → D} {r : Nat → Eff} {i : Nat} {b : List Nat} : ∀ {a : List Nat} {s : List SV × Mem},(∀ x,x ∈ a → Indep ops x i (r x) (r i)) →
  Goes P cs ops depth dec hs r (a ++ i :: b) s → Goes P cs ops depth dec hs r (i :: (a ++ b)) s ∧ Alike (allR ops r (a ++ i :: b) s) (allR ops r (i :: (a ++ b)) s)
 | [],s,_,h=>⟨h,Alike.refl _⟩
 | x :: a,s,hx,h=>by
  obtain ⟨h1,h2⟩ := h
  obtain ⟨g1,g2⟩ := goes_front (a := a) (fun y hy=>hx y (List.mem_cons_of_mem _ hy)) h2
  obtain ⟨k1,k2⟩ := goes_swap (l := a ++ b) (hx x List.mem_cons_self) (s := s) ⟨h1,g1⟩
  exact ⟨k1,g2.trans k2⟩

/-! ### The orders that a region may take -/

def predsOf (ops : Array Oper) (i : Nat) : List Nat :=
 match ops[i]? with
 | some o=>(o.after.toList.filter (Region.binds .any)).map (·.on)
 | none=>[]
inductive Begun (ops : Array Oper) : List Nat → Prop
 | nil : Begun ops []
 | snoc {l : List Nat} {i : Nat} (h : Begun ops l) (hi : i ∉ l) (hlt : i < ops.size) (hp : ∀ j,j ∈ predsOf ops i → j ∈ l) : Begun ops (l ++ [i])

theorem Begun.closed {l : List Nat} (h : Begun ops l) : ∀ i,i ∈ l → ∀ j,j ∈ predsOf ops i → j ∈ l := by
 induction h with
 | nil=>intro i hi; cases hi
 | snoc h hi hlt hp ih =>
  intro k hk j hj
  rcases List.mem_append.1 hk with hk | hk
  ·exact List.mem_append_left _ (ih k hk j hj)
  ·rw [List.mem_singleton.1 hk] at hj
   exact List.mem_append_left _ (hp j hj)
def maskOf (acc : List Nat) (o : Oper) : Nat := o.after.toList.foldr (fun e s=>if Region.binds .any e then (2 ^ e.on ||| acc.getD e.on 0) ||| s else s) 0

def masks : List Oper → List Nat → List Nat
 | [],acc=>acc
 | o :: r,acc=>masks r (acc ++ [maskOf acc o])

theorem maskOf_bit {acc : List Nat} {o : Oper} {j : Nat} (h : (maskOf acc o).testBit j = true) :
  ∃ e,e ∈ o.after.toList ∧ Region.binds .any e = true ∧ (j = e.on ∨ (acc.getD e.on 0).testBit j = true) := by
 unfold maskOf at h
 generalize o.after.toList = es at h
 induction es with
 | nil=>simp at h
 | cons e r ih =>
  simp only [List.foldr_cons] at h
  split at h
  ·rename_i hb
   simp only [Nat.testBit_or,Bool.or_eq_true,Nat.testBit_two_pow,decide_eq_true_eq] at h
   rcases h with (h | h) | h
   ·exact ⟨e,List.mem_cons_self,hb,.inl h.symm⟩
   ·exact ⟨e,List.mem_cons_self,hb,.inr h⟩
   ·obtain ⟨e',h1,h2⟩ := ih h; exact ⟨e',List.mem_cons_of_mem _ h1,h2⟩
  ·obtain ⟨e',h1,h2⟩ := ih h; exact ⟨e',List.mem_cons_of_mem _ h1,h2⟩
def TableOk (ops : Array Oper) (acc : List Nat) : Prop :=
 ∀ i,i < acc.length → ∀ l,Begun ops l → (∀ j,j ∈ predsOf ops i → j ∈ l) → ∀ j,(acc.getD i 0).testBit j = true → j ∈ l

theorem masks_ok : ∀ {r : List Oper} {acc : List Nat},(∀ k,r[k]? = ops[acc.length + k]?) → TableOk ops acc → TableOk ops (masks r acc)
 | [],acc,_,h=>h
 | o :: r,acc,hr,h=>by
  have h0 : ops[acc.length]? = some o := by have := hr 0; simpa using this.symm
  refine masks_ok (r := r) (acc := acc ++ [maskOf acc o]) (fun k=>?_) ?_
  ·have := hr (k + 1)
   simp only [List.getElem?_cons_succ] at this
   rw [this]
   simp only [List.length_append,List.length_singleton]
   congr 1; omega
  ·intro i hi l hl hp j hj
   simp only [List.length_append,List.length_singleton] at hi
   by_cases hlt : i < acc.length
   ·rw [List.getD_eq_getElem?_getD,List.getElem?_append_left hlt,← List.getD_eq_getElem?_getD] at hj
    exact h i hlt l hl hp j hj
   ·have : i = acc.length := by omega
    subst this
    rw [List.getD_eq_getElem?_getD,List.getElem?_append_right (Nat.le_refl _)] at hj
    simp only [Nat.sub_self,List.getElem?_cons_zero,Option.getD_some] at hj
    obtain ⟨e,he,hb,hj⟩ := maskOf_bit hj
    have hpe : e.on ∈ predsOf ops acc.length := by
     simp only [predsOf,h0,List.mem_map,List.mem_filter]
     exact ⟨e,⟨he,hb⟩,rfl⟩
    have hin := hp _ hpe
    rcases hj with rfl | hj
    ·exact hin
    ·by_cases hlt2 : e.on < acc.length
     ·exact h e.on hlt2 l hl (hl.closed _ hin) j hj
     ·rw [List.getD_eq_getElem?_getD,List.getElem?_eq_none (by omega)] at hj
      simp at hj

theorem masks_table : TableOk ops (masks ops.toList []) := masks_ok (fun k=>by simp) (fun i hi=>by simp at hi)

theorem masks_length : ∀ (r : List Oper) (acc : List Nat),(masks r acc).length = acc.length + r.length
 | [],acc=>by simp [masks]
 | o :: r,acc=>by simp only [masks]; rw [masks_length r]; simp; omega
def left (n : Nat) (l : List Nat) : List Nat := (List.range n).filter fun i=>!l.contains i

theorem left_split {n i : Nat} {l : List Nat} (hi : i ∉ l) (hlt : i < n) :
  ∃ a b,left n l = a ++ i :: b ∧ left n (l ++ [i]) = a ++ b ∧ ∀ x,x ∈ a → x < i ∧ x ∉ l := by
 obtain ⟨p,q,hpq,hp⟩ : ∃ p q,List.range n = p ++ i :: q ∧ (∀ x,x ∈ p → x < i) := by
  refine ⟨List.range i,(List.range (n - i - 1)).map (fun k=>i + 1 + k),?_,fun x hx=>by simpa using hx⟩
  have h1 : n = i + (1 + (n - i - 1)) := by omega
  rw [h1,List.range_add,Nat.add_comm 1,List.range_succ_eq_map]
  simp only [List.map_cons,Nat.add_zero,List.map_map]
  congr 2
  have h2 : i + (n - i - 1 + 1) - i - 1 = n - i - 1 := by omega
  rw [h2]
  apply List.map_congr_left
  intro k _
  simp only [Function.comp]
  omega
 have hnd : (List.range n).Nodup := List.nodup_range
 rw [hpq] at hnd
 have hq : i ∉ q := by
  intro h
  rw [List.nodup_append] at hnd
  have := hnd.2.1
  simp only [List.nodup_cons] at this
  exact this.1 h
 have hip : i ∉ p := fun h=>by have := hp i h; omega
 refine ⟨p.filter fun x=>!l.contains x,q.filter fun x=>!l.contains x,?_,?_,fun x hx=>?_⟩
 ·simp only [left,hpq,List.filter_append,List.filter_cons]
  rw [if_pos (by simpa using hi)]
 ·simp only [left,hpq,List.filter_append,List.filter_cons]
  have e1 : (p.filter fun x=>!(l ++ [i]).contains x) = p.filter fun x=>!l.contains x := by
   apply List.filter_congr
   intro x hx
   have : x ≠ i := fun e=>hip (e ▸ hx)
   simp [this]
  have e2 : (q.filter fun x=>!(l ++ [i]).contains x) = q.filter fun x=>!l.contains x := by
   apply List.filter_congr
   intro x hx
   have : x ≠ i := fun e=>hq (e ▸ hx)
   simp [this]
  rw [e1,e2]
  simp
 ·rw [List.mem_filter] at hx
  exact ⟨hp x hx.1,by simpa using hx.2⟩
theorem begun_goes {dec : List (Nat × Bool)} {hs : Nat → Nat → D} {r : Nat → Eff} {s : List SV × Mem} (hg : Goes P cs ops depth dec hs r (List.range ops.size) s)
  (hind : ∀ x i,x < i → i < ops.size → ((masks ops.toList []).getD i 0).testBit x = false → Indep ops x i (r x) (r i)) {l : List Nat} (hl : Begun ops l) :
  Goes P cs ops depth dec hs r (l ++ left ops.size l) s ∧ Alike (allR ops r (List.range ops.size) s) (allR ops r (l ++ left ops.size l) s) := by
 induction hl with
 | nil =>
  have : left ops.size [] = List.range ops.size := by simp [left]
  rw [List.nil_append,this]
  exact ⟨hg,Alike.refl _⟩
 | @snoc l i hl hi hlt hp ih =>
  obtain ⟨a,b,h1,h2,h3⟩ := left_split hi hlt
  rw [h1] at ih
  obtain ⟨ih1,ih2⟩ := ih
  rw [goes_append] at ih1
  have hx : ∀ x,x ∈ a → Indep ops x i (r x) (r i) := by
   intro x hxa
   obtain ⟨hxi,hxl⟩ := h3 x hxa
   refine hind x i hxi hlt ?_
   cases hb : ((masks ops.toList []).getD i 0).testBit x with
   | false=>rfl
   | true=>exact absurd (masks_table i (by rw [masks_length]; simpa using hlt) l hl hp x hb) hxl
  obtain ⟨g1,g2⟩ := goes_front hx ih1.2
  rw [h2,List.append_assoc,List.singleton_append]
  refine ⟨goes_append.2 ⟨ih1.1,g1⟩,ih2.trans ?_⟩
  rw [allR_append,allR_append (l := l)]
  exact g2
end
end Sx
end
noncomputable section
namespace Sx
open Go RowKit

theorem wpOp_run {P : Program} {ops : Array Oper} {Q : Exit → Act → World → Prop} {i : Nat} {o : Oper} {a : Act} {w w' : World} {v : Value} {K : Act → World → Prop} (ho : ops[i]? = some o)
  (hw : Region.wanted o (yielded ops a.tmps) = true) (hr : RunsTo P a o w v w') (hK : K (a.put o.dst v) w') : wpOp P ops Q i K a w := by
 unfold wpOp
 simp only [ho,hw,if_true]
 left
 unfold Oper.wp
 rcases hr with hr | ⟨hr,rfl⟩
 ·rw [hr]; exact hK
 ·rw [hr]; exact hK

theorem named_pick {k : Nat} {m : Mem} {T : List Nat} (h : k ∉ Mem.named m) : k ∉ Mem.named (pickM m T) := by
 intro hk
 simp only [Mem.named,List.mem_flatMap] at hk h
 obtain ⟨x,hx,hk⟩ := hk
 exact h ⟨x,(pickM_mem hx).1,hk⟩

theorem named_drop {k : Nat} {m : Mem} {T : List Nat} (h : k ∉ Mem.named m) : k ∉ Mem.named (dropM m T) := by
 intro hk
 simp only [Mem.named,List.mem_flatMap] at hk h
 obtain ⟨x,hx,hk⟩ := hk
 exact h ⟨x,(List.mem_filter.1 hx).1,hk⟩
def NearT (tmps : List SV) (rest : List SFrm) (E E' : Env) : Prop :=
 SV.denL E' tmps = SV.denL E tmps ∧ rest.map (SFrm.den E') = rest.map (SFrm.den E)

section
variable {P : Program} {C : Ctx} {cs : Ctrs} {ops : Array Oper} {depth : Nat} {ds : List Deferred}

theorem runOp_sound (hcs : cs.Ok P) {Q : Exit → Act → World → Prop} {rest : List SFrm} {s : List SV × Mem} {i : Nat} {o : Oper} {key : Nat} {E : Env} {H : HV} {w : World}
  (ho : ops[i]? = some o) (hw : Region.wanted o (yielded ops (SV.denL E s.1).toArray) = true)
  (g : Good C s.2 E H w) (hok : SV.OkL H s.1) (f1 : key ∉ SV.keysL s.1) (f2 : key ∉ Mem.named s.2) (f3 : ∀ f,f ∈ rest → key ∉ SV.keysL f.tmps) (f0 : key < PIN) {K : Act → World → Prop}
  (h : ∀ hh : Nat → D,∃ qs v out,runOp P cs s.1 key hh o.op (pickM s.2 (keysOp s.1 o.op)) = some (qs,v,out) ∧ (∀ q,q ∈ qs → q) ∧
   ∀ E' H' w',Good C (match out with | none=>s.2 | some m=>m ++ dropM s.2 (keysOp s.1 o.op)) E' H' w' → NearT s.1 rest E E' → HLe H H' → v.Ok H' →
    K ((⟨(SV.denL E s.1).toArray,ds⟩ : Act).put o.dst (v.den E')) w') :
  wpOp P ops Q i K ⟨(SV.denL E s.1).toArray,ds⟩ w := by
 have hT : (keysOp s.1 o.op).Nodup := keysOp_nodup _ _
 have gc := g.cut hT
 have gd : Good C (pickM s.2 (keysOp s.1 o.op)) E H w := gc.sub (List.sublist_append_left _ _)
 have k1 : SV.hasL key s.1 = false := SV.hasL_of_keys _ f1
 have k2 : Mem.has key (pickM s.2 (keysOp s.1 o.op)) = false := Mem.has_of_named f0 (named_pick f2)
 have k3 : Mem.has key (dropM s.2 (keysOp s.1 o.op)) = false := Mem.has_of_named f0 (named_drop f2)
 have near : ∀ {E' : Env},Agree key E E' → NearT s.1 rest E E' := fun ha=>⟨SV.denL_agree ha _ k1,rest_agree ha fun f hf=>SV.hasL_of_keys _ (f3 f hf)⟩
 unfold runOp at h
 cases hq : quickOp o.op with
 | true =>
  simp only [hq] at h
  obtain ⟨qs,v,out,he,hqs,hk⟩ := h (fun _=>default)
  split at he
  ·rename_i ps v' m' hop
   cases he
   obtain ⟨h1,h2⟩ := oprQ_spec (P := P) (o := o) (v := v) (ps := qs) gd hok (by
    have hopr : opr P (evS s.1) (pickM s.2 (keysOp s.1 o.op)) 0 o.op = .val qs v m' := hop
    simp only [oprQ,hq,if_true,hopr]) hqs
   exact wpOp_run ho hw (.inl h1) (hk E H w g ⟨rfl,rfl⟩ (HLe.refl _) h2)
  ·cases he
 | false =>
  simp only [hq] at h
  -- from the outcome of a plain operation
  have plain : (∀ hh : Nat → D,∃ qs v m',outOf (opr P (evS s.1) (pickM s.2 (keysOp s.1 o.op)) key o.op) hh = some (qs,v,m') ∧ (∀ q,q ∈ qs → q) ∧
    ∀ E' H' w',Good C (m' ++ dropM s.2 (keysOp s.1 o.op)) E' H' w' → NearT s.1 rest E E' → HLe H H' → v.Ok H' →
     K ((⟨(SV.denL E s.1).toArray,ds⟩ : Act).put o.dst (v.den E')) w') → wpOp P ops Q i K ⟨(SV.denL E s.1).toArray,ds⟩ w := by
   intro h
   have hr := opr_spec (P := P) (o := o) (a := ⟨(SV.denL E s.1).toArray,ds⟩) gd (fun x=>den_evS E s.1 ds x) (ok_evS hok) k2 (fun x=>has_evS k1 x)
   generalize opr P (evS s.1) (pickM s.2 (keysOp s.1 o.op)) key o.op = r at h hr
   cases r with
   | bad=>obtain ⟨_,_,_,he,_⟩ := h (fun _=>default); simp [outOf] at he
   | val ps v m' =>
    obtain ⟨qs,v2,d,he,hq,hk⟩ := h (fun _=>default)
    simp only [outOf,Option.some.injEq,Prod.mk.injEq] at he
    obtain ⟨rfl,rfl,rfl⟩ := he
    obtain ⟨w',E',H',hrun,ha,hle,g',hv,hkeep⟩ := hr hq
    exact wpOp_run ho hw hrun (hk E' H' w' (gc.beside g' ha hle hkeep k3) (near ha) hle hv)
   | all ps gg =>
    have hq : ∀ q,q ∈ ps → q := by
     obtain ⟨qs,v2,d,he,hq,_⟩ := h (fun _=>default)
     simp only [outOf,Option.some.injEq,Prod.mk.injEq] at he
     rw [he.1]; exact hq
    obtain ⟨hs1,w',E',H',hrun,ha,hle,g',hv,hkeep⟩ := hr hq
    obtain ⟨qs,v2,d,he,_,hk⟩ := h hs1
    simp only [outOf,Option.some.injEq,Prod.mk.injEq] at he
    obtain ⟨rfl,rfl,rfl⟩ := he
    exact wpOp_run ho hw hrun (hk E' H' w' (gc.beside g' ha hle hkeep k3) (near ha) hle hv)
  have plain' : (∀ hh : Nat → D,∃ qs v out,outS (outOf (opr P (evS s.1) (pickM s.2 (keysOp s.1 o.op)) key o.op) hh) = some (qs,v,out) ∧ (∀ q,q ∈ qs → q) ∧
    ∀ E' H' w',Good C (match out with | none=>s.2 | some m=>m ++ dropM s.2 (keysOp s.1 o.op)) E' H' w' → NearT s.1 rest E E' → HLe H H' → v.Ok H' →
     K ((⟨(SV.denL E s.1).toArray,ds⟩ : Act).put o.dst (v.den E')) w') → wpOp P ops Q i K ⟨(SV.denL E s.1).toArray,ds⟩ w := by
   intro h
   refine plain fun hh=>?_
   obtain ⟨qs,v,out,he,h1,h2⟩ := h hh
   unfold outS at he
   split at he
   ·rename_i ps v' m' hout
    cases he
    exact ⟨_,_,_,hout,h1,h2⟩
   ·cases he
  split at h
  ·rename_i cl hop
   cases hcal : calleeOf (evS s.1) cl.callee with
   | none=>simp only [hcal] at h; exact plain' h
   | some x =>
    obtain ⟨f,first,captured⟩ := x
    simp only [hcal] at h
    cases hfind : cs.find f with
    | none=>obtain ⟨_,_,_,he,_⟩ := h (fun _=>default); simp [hfind] at he
    | some ctr =>
     simp only [hfind] at h
     obtain ⟨⟨fn,hfn,hb,hn⟩,hctr,hro⟩ := hcs _ (Ctrs.find_mem hfind)
     have hcall := hctr C E H w _ key _ gd (okL_args hok hcal) k2 (has_args k1 hcal)
     have hro := hro (first ++ cl.args.toList.map (evS s.1) ++ captured) key (pickM s.2 (keysOp s.1 o.op))
     have hrun := run_call (P := P) (fun x=>den_evS E s.1 ds x) hcal hfn hb hn hop w
     have fin : ∀ {T : Value → World → Prop},Calls P f (SV.denL E (first ++ cl.args.toList.map (evS s.1) ++ captured)).toArray w (fun e w'=>∃ v,e = .returned v ∧ T v w') →
       (∀ v w',T v w' → K ((⟨(SV.denL E s.1).toArray,ds⟩ : Act).put o.dst v) w') → wpOp P ops Q i K ⟨(SV.denL E s.1).toArray,ds⟩ w := by
      intro T hc hT
      unfold wpOp
      simp only [ho,hw,if_true]
      left
      unfold Oper.wp
      rw [hrun]
      refine Calls.mono hc fun e w' he=>?_
      obtain ⟨v,rfl,h1⟩ := he
      exact hT v w' h1
     simp only at hcall hro
     generalize ctr (first ++ cl.args.toList.map (evS s.1) ++ captured) key (pickM s.2 (keysOp s.1 o.op)) = r at h hcall hro
     have h' : ∀ hh : Nat → D,∃ qs v m',outOf r hh = some (qs,v,m') ∧ (∀ q,q ∈ qs → q) ∧
       ∀ E' H' w',Good C (m' ++ dropM s.2 (keysOp s.1 o.op)) E' H' w' → NearT s.1 rest E E' → HLe H H' → v.Ok H' → K ((⟨(SV.denL E s.1).toArray,ds⟩ : Act).put o.dst (v.den E')) w' := by
      intro hh
      obtain ⟨qs,v,out,he,h1,h2⟩ := h hh
      unfold outC at he
      split at he
      ·rename_i ps v' m' hout
       split at he
       ·rename_i hro'
        simp only [Bool.and_eq_true] at hro'
        cases he
        refine ⟨_,_,_,hout,h1,fun E' H' w' hg=>h2 E' H' w' ?_⟩
        have hm' : m' = pickM s.2 (keysOp s.1 o.op) := by
         have hro := hro hro'.1
         cases r with
         | bad=>simp [outOf] at hout
         | val ps v m2 =>
          simp only [outOf,Option.some.injEq,Prod.mk.injEq] at hout
          obtain ⟨_,_,rfl⟩ := hout
          exact hro hro'.2
         | all ps gg =>
          simp only [outOf,Option.some.injEq,Prod.mk.injEq] at hout
          obtain ⟨_,_,rfl⟩ := hout
          exact hro _ hro'.2
        rw [hm'] at hg
        exact hg.alike (Mem.get_cut _ _) g.keys
       ·cases he
        exact ⟨_,_,_,hout,h1,h2⟩
      ·cases he
     cases r with
     | bad=>obtain ⟨_,_,_,he,_⟩ := h' (fun _=>default); simp [outOf] at he
     | val ps v m' =>
      obtain ⟨qs,v2,d,he,hq,hk⟩ := h' (fun _=>default)
      simp only [outOf,Option.some.injEq,Prod.mk.injEq] at he
      obtain ⟨rfl,rfl,rfl⟩ := he
      have hcall := hcall hq
      refine fin (T := fun v' w'=>∃ E' H',v' = v.den E' ∧ Agree key E E' ∧ HLe H H' ∧ Good C m' E' H' w' ∧ v.Ok H' ∧ Keeps _ E H w key m' E' H' w')
       (Calls.mono hcall fun e w' ⟨E',H',he,h1⟩=>⟨_,he,E',H',rfl,h1⟩) (fun v' w' ⟨E',H',hv',ha,hle,g',hv,hkeep⟩=>?_)
      rw [hv']
      exact hk E' H' w' (gc.beside g' ha hle hkeep k3) (near ha) hle hv
     | all ps gg =>
      have hq : ∀ q,q ∈ ps → q := by
       obtain ⟨qs,v2,d,he,hq,_⟩ := h' (fun _=>default)
       simp only [outOf,Option.some.injEq,Prod.mk.injEq] at he
       rw [he.1]; exact hq
      have hcall := hcall hq
      refine fin (T := fun v' w'=>∃ hs E' H',v' = (gg hs).1.den E' ∧ Agree key E E' ∧ HLe H H' ∧ Good C (gg hs).2 E' H' w' ∧ (gg hs).1.Ok H' ∧ Keeps _ E H w key (gg hs).2 E' H' w')
       (Calls.mono hcall fun e w' ⟨hs1,E',H',he,h1⟩=>⟨_,he,hs1,E',H',rfl,h1⟩) (fun v' w' ⟨hs1,E',H',hv',ha,hle,g',hv,hkeep⟩=>?_)
      obtain ⟨qs,v2,d,he,_,hk⟩ := h' hs1
      simp only [outOf,Option.some.injEq,Prod.mk.injEq] at he
      obtain ⟨rfl,rfl,rfl⟩ := he
      rw [hv']
      exact hk E' H' w' (gc.beside g' ha hle hkeep k3) (near ha) hle hv
  ·rename_i hnc
   exact plain' h

def setHs (hs : Nat → Nat → D) (i : Nat) (hh : Nat → D) : Nat → Nat → D := fun j=>if j = i then hh else hs j

theorem wpOp_pure {Q : Exit → Act → World → Prop} {i : Nat} {o : Oper} {a : Act} {w : World} {v : Value} {K : Act → World → Prop} (ho : ops[i]? = some o)
  (hw : Region.wanted o (yielded ops a.tmps) = false) (hv : v = Go.undef) (hK : K (a.put o.dst v) w) : wpOp P ops Q i K a w := by
 unfold wpOp
 simp only [ho,hw]
 subst hv
 exact hK
theorem stepR_sound (hcs : cs.Ok P) {Q : Exit → Act → World → Prop} {rest : List SFrm} {s : List SV × Mem} {i : Nat} {E : Env} {H : HV} {w : World} {hs : Nat → Nat → D}
  (g : Good C s.2 E H w) (hok : SV.OkL H s.1) (f1 : dstKey depth (dstOf ops i) ∉ SV.keysL s.1) (f2 : dstKey depth (dstOf ops i) ∉ Mem.named s.2)
  (f3 : ∀ f,f ∈ rest → dstKey depth (dstOf ops i) ∉ SV.keysL f.tmps) (f0 : dstKey depth (dstOf ops i) < PIN) {K : Act → World → Prop}
  (h : ∀ hh : Nat → D,∃ dec e,stepR P cs ops depth dec (setHs hs i hh) s i = .ok e ∧ (∀ p,p ∈ e.ps → p) ∧
   ∀ E' H' w',Good C (applyR ops s i e).2 E' H' w' → NearT s.1 rest E E' → HLe H H' → SV.OkL H' (applyR ops s i e).1 → K ⟨(SV.denL E' (applyR ops s i e).1).toArray,ds⟩ w') :
  wpOp P ops Q i K ⟨(SV.denL E s.1).toArray,ds⟩ w := by
 -- what is put into the slot
 have put : ∀ {e : Eff} {E' : Env} {H' : HV} {w' : World} {o : Oper},ops[i]? = some o → Good C (e.mem s.2) E' H' w' → NearT s.1 rest E E' → HLe H H' → e.v.Ok H' →
   (∀ E' H' w',Good C (applyR ops s i e).2 E' H' w' → NearT s.1 rest E E' → HLe H H' → SV.OkL H' (applyR ops s i e).1 → K ⟨(SV.denL E' (applyR ops s i e).1).toArray,ds⟩ w') →
   K ((⟨(SV.denL E s.1).toArray,ds⟩ : Act).put o.dst (e.v.den E')) w' := by
  intro e E' H' w' o ho hg hn hle hv hk
  have := hk E' H' w' hg hn hle (okL_putS (SV.OkL.mono hle _ hok) hv)
  simp only [applyR,dstOf,ho,Option.bind_some] at this
  rw [← put_den,hn.1] at this
  exact this
 obtain ⟨dec0,e0,hs0,hp0,hk0⟩ := h (fun _=>default)
 obtain ⟨o,ho⟩ := stepR_some hs0
 simp only [dstOf,ho,Option.bind_some] at f1 f2 f3 f0
 unfold stepR at hs0
 simp only [ho] at hs0
 split at hs0
 ·cases hs0
 ·cases hs0
 ·rename_i ps hg
  cases hs0
  exact wpOp_pure ho ((guardD_spec (E := E) hp0).2 hg) (v := SV.undef.den E) (by simp [SV.den]) (put (e := ⟨ps,.undef,[],none,none,none,none⟩) ho g ⟨rfl,rfl⟩ (HLe.refl _) (by simp [SV.Ok]) hk0)
 ·rename_i ps hg
  have hw : Region.wanted o (yielded ops (SV.denL E s.1).toArray) = true := by
   refine (guardD_spec (E := E) (fun p hp=>?_)).1 hg
   split at hs0
   ·unfold pickD at hs0
    split at hs0
    ·cases hs0; exact hp0 p hp
    ·split at hs0
     ·cases hs0; exact hp0 p (List.mem_append_left _ hp)
     ·cases hs0
    ·cases hs0
   ·split at hs0
    ·exact hp0 p ((lookD_ok hs0).1 p hp)
    ·cases hs0
   ·split at hs0
    ·split at hs0
     ·split at hs0
      ·cases hs0; exact hp0 p hp
      ·cases hs0
     ·cases hs0
    ·split at hs0
     ·cases hs0; exact hp0 p (List.mem_append_left _ hp)
     ·cases hs0
   ·split at hs0
    ·cases hs0; exact hp0 p (List.mem_append_left _ hp)
    ·cases hs0
   ·split at hs0
    ·cases hs0; exact hp0 p hp
    ·cases hs0
   ·split at hs0
    ·cases hs0; exact hp0 p (List.mem_append_left _ hp)
    ·cases hs0
  split at hs0
  ·rename_i t x y hop
   -- a choice
   have pk : ∀ d : Bool,s.1[t]? = some (.lb d) ∨ (∃ b,s.1[t]? = some (.bool b) ∧ b = d) → ∀ {ps' : List Prop},e0 = ⟨ps',if d then evS s.1 x else evS s.1 y,[],none,none,none,none⟩ → wpOp P ops Q i K ⟨(SV.denL E s.1).toArray,ds⟩ w := by
    intro d hd ps' he
    subst he
    have hv : (if d then evS s.1 x else evS s.1 y).Ok H := by cases d <;> exact ok_evS hok _
    have hc : (⟨(SV.denL E s.1).toArray,ds⟩ : Act).eval (.tmp t) = .bool d := by
     rw [den_evS]
     simp only [evS,List.getD_eq_getElem?_getD]
     rcases hd with hd | ⟨b,hd,rfl⟩
     ·rw [hd]; simp [SV.den]
     ·rw [hd]; simp [SV.den]
    refine wpOp_run ho hw (v := (if d then evS s.1 x else evS s.1 y).den E) (.inl ?_) (put (e := ⟨ps',if d then evS s.1 x else evS s.1 y,[],none,none,none,none⟩) ho g ⟨rfl,rfl⟩ (HLe.refl _) hv hk0)
    unfold execOp
    simp only [hop,hc,Sem.run_bind,run_bool,Result.andThen_ok]
    cases d
    ·simp only [Bool.false_eq_true,if_false,den_evS,Sem.run_pure]
    ·simp only [if_true,den_evS,Sem.run_pure]
   unfold pickD at hs0
   split at hs0
   ·rename_i d hd
    cases hs0
    exact pk d (.inl hd) rfl
   ·rename_i b hd
    split at hs0
    ·rename_i d hdec
     cases hs0
     exact pk d (.inr ⟨b,hd,hp0 _ (by simp)⟩) rfl
    ·cases hs0
   ·cases hs0
  ·rename_i t x j ok hop
   -- what a map holds
   split at hs0
   ·rename_i l d hlk
    obtain ⟨_,hT,hout,hv⟩ := lookD_ok hs0
    have hv := hv hp0
    have gd : Good C (pickM s.2 (keysOp s.1 (.lookup t x j ok))) E H w := (g.cut (keysOp_nodup _ _)).sub (List.sublist_append_left _ _)
    obtain ⟨e1,e2⟩ := lookR_spec (P := P) gd hlk
    rw [← hv] at e1 e2
    refine wpOp_run ho hw (v := e0.v.den E) (.inl ?_) (put ho (by simp only [Eff.mem,hout.1,hout.2.1,hout.2.2]; exact g) ⟨rfl,rfl⟩ (HLe.refl _) e2 hk0)
    unfold execOp
    simp only [hop,Sem.run_bind]
    rw [den_evS,den_evS,e1]
    rfl
   ·cases hs0
  ·rename_i t a x hop
   -- a store
   have other : ∀ {ps : List Prop},guardD dec0 ops o s.1 = .yes ps → (∀ K off,evS s.1 a ≠ .ptr K off) → wpOp P ops Q i K ⟨(SV.denL E s.1).toArray,ds⟩ w := by
    intro ps hg hna
    refine runOp_sound (key := dstKey depth o.dst) hcs ho hw g hok f1 f2 f3 f0 fun hh=>?_
    obtain ⟨dec1,e1,hs1,hp1,hk1⟩ := h hh
    unfold stepR at hs1
    simp only [ho] at hs1
    split at hs1
    ·cases hs1
    ·cases hs1
    ·rename_i ps1 hg1
     cases hs1
     have := (guardD_spec (E := E) hp1).2 hg1
     rw [hw] at this
     cases this
    ·rename_i ps1 hg1
     simp only [hop] at hs1
     split at hs1
     ·rename_i qs v out hr
      cases hs1
      rw [show setHs hs i hh i = hh from by simp [setHs]] at hr
      rw [hop]
      exact ⟨qs,v,out,hr,fun q hq=>hp1 q (List.mem_append_right _ hq),fun E' H' w' hg' hn hle hv=>put (e := ⟨ps1 ++ qs,v,keysOp s.1 (.store t a x),out,none,none,none⟩) ho hg' hn hle hv hk1⟩
     ·cases hs1
   split at hs0
   ·rename_i K off ha
    split at hs0
    ·rename_i vs n ty cs' h1 h2 h3
     split at hs0
     ·rename_i hc
      cases hs0
      obtain ⟨w',e1,e2,_⟩ := storeR_spec (P := P) (t := t) (a := evS s.1 a) (v := evS s.1 x) (ps := []) (m' := s.2.set K (.cells ty (cs'.take off ++ vs ++ cs'.drop (off + n)))) g (ok_evS hok x) (by
       simp only [storeR,ha,h1,h2,h3]; rw [if_pos hc]) (by simp)
      refine wpOp_run ho hw (v := SV.undef.den E) (.inr ⟨?_,by simp [SV.den]⟩) (put (e := ⟨ps,.undef,[K],none,none,some (K,off,vs),none⟩) ho (by simp only [Eff.mem,h3,updC,hc.1]; exact e2) ⟨rfl,rfl⟩ (HLe.refl _) (by simp [SV.Ok]) hk0)
      unfold execOp
      simp only [hop,Sem.run_bind]
      rw [den_evS,den_evS,e1]
      rfl
     ·cases hs0
    ·cases hs0
   ·rename_i hna
    exact other hg hna
  ·rename_i t a hop
   -- a load
   split at hs0
   ·rename_i qs v hr
    cases hs0
    have gd : Good C (pickM s.2 (keysOp s.1 (.load t a))) E H w := (g.cut (keysOp_nodup _ _)).sub (List.sublist_append_left _ _)
    simp only [runOp,quickOp] at hr
    split at hr
    ·rename_i ps' v' m' he
     cases hr
     obtain ⟨e1,e2⟩ := oprQ_spec (P := P) (o := o) (v := v) (ps := qs) gd hok (by simp only [oprQ,hop,quickOp,if_true,he]) (fun p hp=>hp0 p (List.mem_append_right _ hp))
     exact wpOp_run ho hw (.inl e1) (put (e := ⟨ps ++ qs,v,keysOp s.1 (.load t a),none,none,none,_⟩) ho g ⟨rfl,rfl⟩ (HLe.refl _) e2 hk0)
    ·cases hr
   ·cases hs0
  ·rename_i t x j v hop
   split at hs0
   ·rename_i K k n hins
    cases hs0
    have hget : ∃ o',s.2.get K = some o' := by obtain ⟨_,_,es,_,_,_,_,h5,_⟩ := insOk_spec hins; exact ⟨_,h5⟩
    obtain ⟨o',ho'⟩ := hget
    obtain ⟨w',e1,e2,_⟩ := insR_spec (P := P) (t := t) (x := evS s.1 x) (i := evS s.1 j) (v := evS s.1 v) (m' := s.2.set K (insO k n (evS s.1 v) o')) g (ok_evS hok v) (by simp only [insR,hins,ho'])
    refine wpOp_run ho hw (v := SV.undef.den E) (.inr ⟨?_,by simp [SV.den]⟩) (put (e := ⟨ps,.undef,[K],none,some (K,k,n,evS s.1 v),none,none⟩) ho (by simp only [Eff.mem,ho']; exact e2) ⟨rfl,rfl⟩ (HLe.refl _) (by simp [SV.Ok]) hk0)
    unfold execOp
    simp only [hop,Sem.run_bind]
    rw [den_evS,den_evS,den_evS,e1]
    rfl
   ·cases hs0
  ·rename_i hnp hnl hns hnd hni
   refine runOp_sound (key := dstKey depth o.dst) hcs ho hw g hok f1 f2 f3 f0 fun hh=>?_
   obtain ⟨dec1,e1,hs1,hp1,hk1⟩ := h hh
   unfold stepR at hs1
   simp only [ho] at hs1
   split at hs1
   ·cases hs1
   ·cases hs1
   ·rename_i ps1 hg1
    cases hs1
    have := (guardD_spec (E := E) hp1).2 hg1
    rw [hw] at this
    cases this
   ·rename_i ps1 hg1
    split at hs1
    ·rename_i qs v out hr
     cases hs1
     rw [show setHs hs i hh i = hh from by simp [setHs]] at hr
     exact ⟨qs,v,out,hr,fun q hq=>hp1 q (List.mem_append_right _ hq),fun E' H' w' hg' hn hle hv=>put (e := ⟨ps1 ++ qs,v,keysOp s.1 o.op,out,none,none,none⟩) ho hg' hn hle hv hk1⟩
    ·cases hs1
theorem stepR_det {dec dec' : List (Nat × Bool)} {hs hs' : Nat → Nat → D} {s : List SV × Mem} {i : Nat} {e e' : Eff} (hh : hs i = hs' i)
  (h : stepR P cs ops depth dec hs s i = .ok e) (h' : stepR P cs ops depth dec' hs' s i = .ok e') (hp : ∀ p,p ∈ e.ps → p) (hp' : ∀ p,p ∈ e'.ps → p) : e = e' := by
 have dd : ∀ {b d d' : Bool},b = d → b = d' → d = d' := fun h1 h2=>h1.symm.trans h2
 have guard : ∀ {o : Oper} {ps ps' : List Prop},(∀ p,p ∈ ps → p) → (∀ p,p ∈ ps' → p) →
   (guardD dec ops o s.1 = .yes ps → guardD dec' ops o s.1 = .yes ps' → ps = ps') ∧ (guardD dec ops o s.1 = .no ps → guardD dec' ops o s.1 = .no ps' → ps = ps') := by
  intro o ps ps' q q'
  unfold guardD
  cases o.guard with
  | none=>constructor <;> (intro h1 h2; cases h1 <;> cases h2 <;> rfl)
  | some x =>
   obtain ⟨j,want⟩ := x
   simp only
   cases (ops[j]?).bind (·.dst) with
   | none=>constructor <;> (intro h1 h2; cases h1)
   | some t =>
    simp only
    cases s.1[t]? with
    | none=>constructor <;> (intro h1 h2; cases h1)
    | some v =>
     cases v
     case undef=>constructor <;> (intro h1 h2; cases h1 <;> cases h2 <;> rfl)
     case lb b =>
      constructor
      ·intro h1 h2
       simp only at h1 h2
       rw [h1] at h2
       cases h2; rfl
      ·intro h1 h2
       simp only at h1 h2
       rw [h1] at h2
       cases h2; rfl
     case bool b =>
      simp only
      cases decOf dec t with
      | none=>constructor <;> (intro h1 h2; cases h1)
      | some d =>
       cases decOf dec' t with
       | none=>constructor <;> (intro h1 h2; cases h2)
       | some d' =>
        constructor
        ·intro h1 h2
         simp only at h1 h2
         split at h1
         ·cases h1
          split at h2
          ·cases h2
           rw [dd (q _ (List.mem_singleton.2 rfl)) (q' _ (List.mem_singleton.2 rfl))]
          ·cases h2
         ·cases h1
        ·intro h1 h2
         simp only at h1 h2
         split at h1
         ·cases h1
         ·cases h1
          split at h2
          ·cases h2
          ·cases h2
           rw [dd (q _ (List.mem_singleton.2 rfl)) (q' _ (List.mem_singleton.2 rfl))]
     all_goals (constructor <;> (intro h1 h2; cases h1))
 -- the guard's own word is part of what was assumed
 have word : ∀ {dec : List (Nat × Bool)} {hs : Nat → Nat → D} {e : Eff} {o : Oper},ops[i]? = some o → stepR P cs ops depth dec hs s i = .ok e → (∀ p,p ∈ e.ps → p) →
   (∃ ps,guardD dec ops o s.1 = .no ps ∧ (∀ p,p ∈ ps → p)) ∨ ∃ ps,guardD dec ops o s.1 = .yes ps ∧ (∀ p,p ∈ ps → p) := by
  intro dec hs e o ho h hp
  unfold stepR at h
  simp only [ho] at h
  split at h
  ·cases h
  ·cases h
  ·rename_i ps hg; cases h; exact .inl ⟨ps,hg,hp⟩
  ·rename_i ps hg
   refine .inr ⟨ps,hg,fun p hpp=>?_⟩
   split at h
   ·unfold pickD at h
    split at h
    ·cases h; exact hp p hpp
    ·split at h
     ·cases h; exact hp p (List.mem_append_left _ hpp)
     ·cases h
    ·cases h
   ·split at h
    ·exact hp p ((lookD_ok h).1 p hpp)
    ·cases h
   ·split at h
    ·split at h
     ·split at h
      ·cases h; exact hp p hpp
      ·cases h
     ·cases h
    ·split at h
     ·cases h; exact hp p (List.mem_append_left _ hpp)
     ·cases h
   ·split at h
    ·cases h; exact hp p (List.mem_append_left _ hpp)
    ·cases h
   ·split at h
    ·cases h; exact hp p hpp
    ·cases h
   ·split at h
    ·cases h; exact hp p (List.mem_append_left _ hpp)
    ·cases h
 obtain ⟨o,ho⟩ := stepR_some h
 have w1 := word ho h hp
 have w2 := word ho h' hp'
 let E : Env := ⟨fun _=>0,fun _=>(none,0),fun _=>.bool false⟩
 unfold stepR at h h'
 simp only [ho] at h h'
 rcases w1 with ⟨ps,hg,hq⟩ | ⟨ps,hg,hq⟩ <;> rcases w2 with ⟨ps',hg',hq'⟩ | ⟨ps',hg',hq'⟩
 ·simp only [hg] at h
  simp only [hg'] at h'
  cases h; cases h'
  rw [(guard (o := o) hq hq').2 hg hg']
 ·have a := (guardD_spec (E := E) hq).2 hg
  have b := (guardD_spec (E := E) hq').1 hg'
  rw [a] at b; cases b
 ·have a := (guardD_spec (E := E) hq).1 hg
  have b := (guardD_spec (E := E) hq').2 hg'
  rw [a] at b; cases b
 ·have hpe := (guard (o := o) hq hq').1 hg hg'
  subst hpe
  simp only [hg] at h
  simp only [hg'] at h'
  split at h
  ·rename_i t x y hop
   simp only [hop] at h'
   unfold pickD at h h'
   split at h
   ·rename_i d hd
    simp only [hd] at h'
    cases h; cases h'; rfl
   ·rename_i b hd
    simp only [hd] at h'
    split at h
    ·rename_i d hdec
     cases h
     split at h'
     ·rename_i d' hdec'
      cases h'
      have := dd (hp _ (by simp) : b = d) (hp' _ (by simp) : b = d')
      subst this
      rfl
     ·cases h'
    ·cases h
   ·cases h
  ·rename_i t x j ok hop
   simp only [hop] at h'
   split at h
   ·rename_i l d hlk
    simp only [hlk] at h'
    exact lookD_det h h' hp hp'
   ·cases h
  ·rename_i t a x hop
   simp only [hop,← hh] at h'
   rw [h] at h'
   cases h'
   rfl
  ·rename_i t a hop
   simp only [hop,← hh] at h'
   rw [h] at h'
   cases h'
   rfl
  ·rename_i t x j v hop
   simp only [hop] at h'
   rw [h] at h'
   cases h'
   rfl
  ·rename_i hnp hnl hns hnd hni
   split at h'
   ·rename_i t x y hop; exact absurd hop (hnp t x y)
   ·rename_i t x j ok hop; exact absurd hop (hnl t x j ok)
   ·rename_i t a x hop; exact absurd hop (hns t a x)
   ·rename_i t a hop; exact absurd hop (hnd t a)
   ·rename_i t x j v hop; exact absurd hop (hni t x j v)
   ·rw [← hh] at h'
    rw [h] at h'
    cases h'
    rfl

theorem goes_det {dec dec' : List (Nat × Bool)} {hs hs' : Nat → Nat → D} {r r' : Nat → Eff} : ∀ {l : List Nat} {s : List SV × Mem},(∀ i,i ∈ l → hs i = hs' i) →
  Goes P cs ops depth dec hs r l s → Goes P cs ops depth dec' hs' r' l s → (∀ i,i ∈ l → ∀ p,p ∈ (r i).ps → p) → (∀ i,i ∈ l → ∀ p,p ∈ (r' i).ps → p) → allR ops r l s = allR ops r' l s
 | [],_,_,_,_,_,_=>rfl
 | i :: l,s,hh,⟨h1,h2⟩,⟨h3,h4⟩,hp,hp'=>by
  have e := stepR_det (hh i List.mem_cons_self) h1 h3 (hp i List.mem_cons_self) (hp' i List.mem_cons_self)
  simp only [allR]
  rw [← e] at h4 ⊢
  exact goes_det (fun j hj=>hh j (List.mem_cons_of_mem _ hj)) h2 h4 (fun j hj=>hp j (List.mem_cons_of_mem _ hj)) (fun j hj=>hp' j (List.mem_cons_of_mem _ hj))
end
end Sx
end
