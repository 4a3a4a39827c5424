/- From how the arguments read to data. -/
import Derived.Test.YtoechplbhbalaaaOrtoLw
import Derived.ProofKit
import Derived.OpenShut
import Derived.Below
import Derived.Carry
import Derived.Deep.Slices
import Derived.ChangeOld
import Derived.Sort.Row
import Derived.Shelf.Slices.Delete
import Derived.Test.YtoechplbhbalaaaProg
import Derived.KernelRfl
set_option linter.all false
section
namespace Sx
open Go RowKit
inductive TS where
 | int (k : IntKind)
 | bool
 | slc (e : TS)
 | st (fs : List TS)

mutual
def TS.sz : TS → Nat
 | .int _ => 1
 | .bool => 1
 | .slc _ => 1
 | .st fs => TS.szL fs
def TS.szL : List TS → Nat
 | [] => 0
 | f :: r => f.sz + TS.szL r
end

mutual
def TS.fits (P : Program) : TS → TypeId → Bool
 | .int k, t => match P.underlying t with | some (.int k') => k' == k | _ => false
 | .bool, t => match P.underlying t with | some .bool => true | _ => false
 | .slc e, t => match P.underlying t with | some (.slice e') => e.fits P e' && P.cellsOf e' == e.sz && decide (0 < e.sz) | _ => false
 | .st fs, t => match P.underlying t with | some (.struct gs) => P.cellsOf t == TS.szL fs && TS.fitsL P fs gs.toList 0 | _ => false
def TS.fitsL (P : Program) : List TS → List Field → Nat → Bool
 | [], [], _ => true
 | f :: fs, g :: gs, off => g.offset == off && P.cellsOf g.type == f.sz && f.fits P g.type && TS.fitsL P fs gs (off + f.sz)
 | _, _, _ => false
end

mutual
def TS.Sh : TS → List D → Prop
 | .int k, ds => ∃ n, ds = [.int k n] ∧ (Lit.int k n).wf = true
 | .bool, ds => ∃ b, ds = [.bool b]
 | .slc e, ds => ∃ h s rows, ds = [.slc h s rows] ∧ (rows = [] ∨ s = e.sz) ∧ rows.length ≤ maxLen ∧ ∀ r, r ∈ rows → e.Sh r
 | .st fs, ds => TS.ShL fs ds
def TS.ShL : List TS → List D → Prop
 | [], ds => ds = []
 | f :: r, ds => ∃ a b, ds = a ++ b ∧ f.Sh a ∧ TS.ShL r b
end
def allOf (w : World) : HV := fun b o => w.cell? ⟨b, o, none⟩
theorem allOf_in (w : World) : InMem (allOf w) w := fun _ _ _ h => h

section
variable {H : Type} {enc : TypeId × Value → H} {P : Program} {w : World} {base : Nat} {spare : Nat → Bool} {held : Bool}
def Gives (w : World) (ts : TS) (cs : List Value) : Prop := ∃ ds : List D, ds.map D.val = cs ∧ (∀ d, d ∈ ds → d.Ok (allOf w)) ∧ ts.Sh ds ∧ ds.length = ts.sz
def GivesL (w : World) (ts : List TS) (cs : List Value) : Prop := ∃ ds : List D, ds.map D.val = cs ∧ (∀ d, d ∈ ds → d.Ok (allOf w)) ∧ TS.ShL ts ds ∧ ds.length = TS.szL ts

theorem gives_slc {e : TS} {t e' : TypeId} (ht : P.underlying t = some (.slice e')) (hc : P.cellsOf e' = e.sz) (h0 : 0 < e.sz) {fuel : Nat} {cs : List Value} {x : DataW H × List MemPlace}
    (h : DataW.trod enc P w base spare held fuel t cs = some x)
    (ih : ∀ n cs x, DataW.trod enc P w base spare held n e' cs = some x → Gives w e cs) : Gives w (.slc e) cs := by
  rcases Deep.open_slice ht h with ⟨rfl, _⟩ | ⟨a, len, cap, m, n, Df, Pl, rfl, hb, hl, hm, hmm, rfl, hx⟩
  · exact ⟨[.slc none 0 []], by simp [D.val, hval], by simp; exact .nil 0, ⟨none, 0, [], rfl, .inl rfl, Nat.zero_le _, by simp⟩, by simp [TS.sz]⟩
  · have hlm : len ≤ m := by rw [hmm]; split <;> omega
    obtain ⟨f, hf⟩ := Deep.choose_lt (α := List D) (n := len) (p := fun i ds => (w.cells? base (a.add (i * P.cellsOf e')) (P.cellsOf e') = some (ds.map D.val)) ∧ (∀ d, d ∈ ds → d.Ok (allOf w)) ∧ e.Sh ds ∧ ds.length = e.sz) (fun i hi => by
      obtain ⟨cs', h1, h2⟩ := hx i (by omega)
      obtain ⟨ds, rfl, h3⟩ := ih _ _ _ h2
      exact ⟨ds, h1, h3⟩)
    have hcell : ∀ i j x, i < len → (f i)[j]? = some x → w.cell? ((a.add (i * e.sz)).add j) = some x.val := by
      intro i j x hi hj
      obtain ⟨h1, _, _, h4⟩ := hf i hi
      obtain ⟨_, _, h2⟩ := World.cells?_some h1
      have hjl : j < P.cellsOf e' := by
        rw [hc, ← h4]
        exact (List.getElem?_eq_some_iff.1 hj).1
      rw [← hc, h2 j hjl, List.getElem?_map, hj]; rfl
    have hspot : 0 < len → a.spot = none := by
      intro hl0
      obtain ⟨_, _, _, h4⟩ := hf 0 hl0
      have := hcell 0 0 _ hl0 (List.getElem?_eq_getElem (by omega : 0 < (f 0).length))
      simp only [Nat.zero_mul, Deep.add_add] at this
      simpa [Addr.add] using World.cell?_spot this
    have hadd : ∀ k, 0 < len → a.add k = ⟨a.block, a.off + k, none⟩ := fun k hl0 => add_none (hspot hl0) k
    refine ⟨[.slc (some (a, cap)) e.sz ((List.range len).map f)], by simp [D.val, hval], ?_, ?_, by simp [TS.sz]⟩
    · intro d hd
      rw [List.mem_singleton.1 hd]
      refine .slc a cap e.sz _ (fun hne => hspot (by rcases Nat.eq_zero_or_pos len with h | h; · subst h; simp at hne
                                                     · exact h)) (by simpa using hl) ?_ ?_ ?_
      · intro r hr
        obtain ⟨i, hi, rfl⟩ := List.mem_map.1 hr
        exact (hf i (List.mem_range.1 hi)).2.2.2
      · intro i j r x hr hj
        rw [List.getElem?_map] at hr
        have hi : i < len := by
          rcases Nat.lt_or_ge i len with h | h
          · exact h
          · simp [List.getElem?_range, h] at hr
        simp [List.getElem?_range, hi] at hr
        subst hr
        have := hcell i j x hi hj
        rw [Deep.add_add, hadd _ (by omega)] at this
        simpa [allOf, Nat.add_assoc] using this
      · intro r hr
        obtain ⟨i, hi, rfl⟩ := List.mem_map.1 hr
        exact (hf i (List.mem_range.1 hi)).2.1
    · simp only [TS.Sh]
      refine ⟨_, _, _, rfl, .inr rfl, by simp; omega, fun r hr => ?_⟩
      obtain ⟨i, hi, rfl⟩ := List.mem_map.1 hr
      exact (hf i (List.mem_range.1 hi)).2.2.1

mutual
theorem gives (ts : TS) (t : TypeId) (hfit : ts.fits P t = true) (fuel : Nat) (cs : List Value) (x : DataW H × List MemPlace)
  (h : DataW.trod enc P w base spare held fuel t cs = some x) : Gives w ts cs := by
 match ts, hfit with
 | .int k, hfit =>
  unfold TS.fits at hfit
  split at hfit
  ·rename_i k' ht
   simp only [beq_iff_eq] at hfit
   subst hfit
   obtain ⟨n, rfl, _, hw⟩ := DataW.trod_int ht h
   exact ⟨[.int k' n], rfl, by simp; exact .int _ _, by simp [TS.Sh, hw], by simp [TS.sz]⟩
  ·cases hfit
 | .bool, hfit =>
  unfold TS.fits at hfit
  split at hfit
  ·rename_i ht
   obtain ⟨n, rfl, _⟩ := DataW.trod_bool ht h
   exact ⟨[.bool n], rfl, by simp; exact .bool _, by simp [TS.Sh], by simp [TS.sz]⟩
  ·cases hfit
 | .slc e, hfit =>
  unfold TS.fits at hfit
  split at hfit
  ·rename_i e' ht
   simp only [Bool.and_eq_true, beq_iff_eq, decide_eq_true_eq] at hfit
   exact gives_slc ht hfit.1.2 hfit.2 h fun n cs x h' => gives e e' hfit.1.1 n cs x h'
  ·cases hfit
 | .st fs, hfit =>
  unfold TS.fits at hfit
  split at hfit
  ·rename_i gs ht
   simp only [Bool.and_eq_true, beq_iff_eq] at hfit
   obtain ⟨xs, n, _, _, hlen, hxl, hfld⟩ := DataW.trod_struct ht h
   have := givesL fs gs.toList 0 hfit.2 n cs (by simpa using hlen.trans hfit.1) (fun g hg => by
    obtain ⟨i, hi, hgi⟩ := List.mem_iff_getElem.1 hg
    have h1 := hfld i g (by simpa using (Array.getElem?_eq_some_iff.2 ⟨by simpa using hi, by simpa using hgi⟩))
    rw [List.getElem?_eq_getElem (by rw [hxl]; simpa using hi)] at h1
    exact ⟨_, h1⟩)
   obtain ⟨ds, h1, h2, h3, h4⟩ := this
   exact ⟨ds, by simpa using h1, h2, by simpa [TS.Sh] using h3, by simpa [TS.sz] using h4⟩
  ·cases hfit
theorem givesL (ts : List TS) (gs : List Field) (off : Nat) (hfit : TS.fitsL P ts gs off = true) (n : Nat) (cs : List Value) (hlen : cs.length = off + TS.szL ts)
  (h : ∀ g, g ∈ gs → ∃ x, DataW.trod enc P w base spare held n g.type ((cs.drop g.offset).take (P.cellsOf g.type)) = some x) : GivesL w ts (cs.drop off) := by
 match ts, gs, hfit with
 | [], [], hfit =>
  refine ⟨[], ?_, by simp, by simp [TS.ShL], by simp [TS.szL]⟩
  simp only [TS.szL] at hlen
  rw [List.drop_eq_nil_of_le (by omega)]; rfl
 | [], _ :: _, hfit => simp [TS.fitsL] at hfit
 | _ :: _, [], hfit => simp [TS.fitsL] at hfit
 | f :: fs, g :: gs, hfit =>
  simp only [TS.fitsL, Bool.and_eq_true, beq_iff_eq] at hfit
  obtain ⟨⟨⟨h1, h2⟩, h3⟩, h4⟩ := hfit
  simp only [TS.szL] at hlen
  obtain ⟨x, hx⟩ := h g (by simp)
  rw [h1, h2] at hx
  obtain ⟨d1, e1, o1, s1, l1⟩ := gives f g.type h3 n _ x hx
  obtain ⟨d2, e2, o2, s2, l2⟩ := givesL fs gs (off + f.sz) h4 n cs (by omega) (fun g' hg' => h g' (by simp [hg']))
  refine ⟨d1 ++ d2, ?_, ?_, ?_, ?_⟩
  ·rw [List.map_append, e1, e2, ← List.drop_drop, List.take_append_drop]
  ·intro d hd
   rcases List.mem_append.1 hd with hd | hd
   ·exact o1 d hd
   ·exact o2 d hd
  ·exact ⟨d1, d2, rfl, s1, s2⟩
  ·simp [TS.szL, l1, l2]
end
theorem arg_st {r : Reach} {b0 : Nat} {t : TypeId} {fs : List TS} {gs : Array Field} {v : Value} {d : DataW H} {p : List MemPlace} (ht : P.underlying t = some (.struct gs)) (hfit : TS.fits P (.st fs) t = true)
  (hv : Value.okWide P w r b0 t v) (h : DataW.Trod enc P w base spare held t v d p) :
  ∃ ds : List D, v = .agg (ds.map D.val).toArray ∧ (∀ d, d ∈ ds → d.Ok (allOf w)) ∧ TS.ShL fs ds := by
 obtain ⟨cs, rfl, _⟩ := WideShapes.okWide_struct ht hv
 obtain ⟨fuel, hf⟩ := h
 obtain ⟨ds, h1, h2, h3, _⟩ := gives (.st fs) t hfit fuel _ _ hf
 refine ⟨ds, ?_, h2, by simpa [TS.Sh] using h3⟩
 rw [h1]; simp [Value.cells]

theorem arg_slc {r : Reach} {b0 : Nat} {t e' : TypeId} {e : TS} {v : Value} {d : DataW H} {p : List MemPlace} (ht : P.underlying t = some (.slice e')) (hfit : TS.fits P (.slc e) t = true)
  (hv : Value.okWide P w r b0 t v) (h : DataW.Trod enc P w base spare held t v d p) :
  ∃ d : D, v = d.val ∧ d.Ok (allOf w) ∧ d.IsSlc ∧ TS.Sh (.slc e) [d] := by
 obtain ⟨a, len, cap, rfl⟩ := WideShapes.okWide_slice ht hv
 obtain ⟨fuel, hf⟩ := h
 obtain ⟨ds, h1, h2, h3, h4⟩ := gives (.slc e) t hfit fuel _ _ hf
 simp only [TS.sz] at h4
 obtain ⟨x, rfl⟩ := List.length_eq_one_iff.1 h4
 simp only [List.map_cons, List.map_nil, Value.cells] at h1
 refine ⟨x, by simpa using h1.symm, h2 x (by simp), ?_, h3⟩
 simp only [TS.Sh] at h3
 obtain ⟨a, b, c, h3, _⟩ := h3
 exact ⟨a, b, c, by simpa using h3⟩
end
theorem law_calls {P : Program} {f : FuncId} {spec : List SV → SpecR} (h : Law P f spec) {w : World} {args : List SV} (hok : SV.OkL (allOf w) args)
  (hs : ∃ ps, spec args = .scalar ps (.lb true) ∧ ∀ p, p ∈ ps → p) :
  Calls P f (SV.denL env0 args).toArray w fun e w' => e = .returned (.bool true) ∧ Below w.heap.size w w' := by
 obtain ⟨ps, hs, hp⟩ := hs
 have h2 := h.2 (allOf w) env0 args hok
 rw [hs] at h2
 exact Calls.mono (h2 hp w (allOf_in w)) fun e w' ⟨u, H', he, ha, hu⟩ => ⟨by rw [he, hu]; simp [SV.den], ha.below⟩
end Sx
end
section
namespace Sx
open Go RowKit

structure Src where
 epoch : Int
 site : Int
 offered : List Int
 stored : Int
 applied : Int
deriving DecidableEq

structure Tgt where
 epoch : Int
 site : Int
 stored : Int
 applied : Int
deriving DecidableEq

structure Msg where
 kind : Int
 frm : Int
 to : Int
 number : Int
 value : Int
 epoch : Int
 values : List Int := []
 body : List Byte := []
deriving DecidableEq

def okTime (n : Int) : Bool := decide (n ≥ 0) && decide (n ≤ 1073741824)
def okSite (n : Int) : Bool := decide (n ≥ 0) && decide (n < 4)
def asc : Int → List Int → Bool
 | _, [] => true
 | l, x :: r => decide (l < x) && decide (x ≤ 1073741824) && asc x r

def okRight (e s a : Int) : Bool := okTime e && okSite s && okTime a

def checkSource (s : Src) : Int :=
 if okRight s.epoch s.site s.applied = false then 2
 else if s.offered.length > 1024 then 6
 else if asc s.applied s.offered = false then 3
 else if s.stored ≠ s.applied ∧ s.stored ∉ s.offered then 12
 else 0

def checkTarget (t : Tgt) : Int :=
 if okTime t.epoch = false ∨ okSite t.site = false then 2
 else if t.applied < 0 ∨ t.stored < t.applied ∨ t.stored > 1073741824 then 3
 else 0

def newSource (e s a : Int) : Src × Int := if okRight e s a then (⟨e, s, [], a, a⟩, 0) else (⟨0, 0, [], 0, 0⟩, 2)
def newTarget (e s a : Int) : Tgt × Int := if okRight e s a then (⟨e, s, a, a⟩, 0) else (⟨0, 0, 0, 0⟩, 2)

def zSrc : Src := ⟨0, 0, [], 0, 0⟩
def zTgt : Tgt := ⟨0, 0, 0, 0⟩
def toTarget (s : Src) (kind cycle : Int) : Msg := ⟨kind, 0, s.site, cycle, 0, s.epoch, [], []⟩
def toSource (t : Tgt) (kind cycle : Int) : Msg := ⟨kind, t.site, 0, 0, cycle, t.epoch, [], []⟩

def lastOf (a : Int) (l : List Int) : Int := l.getLastD a

def offer (s : Src) (c : Int) : Src × List Msg × Int :=
 if checkSource s ≠ 0 then (zSrc, [], checkSource s)
 else if c ≤ lastOf s.applied s.offered then (zSrc, [], 8)
 else if c > 1073741824 then (zSrc, [], 2)
 else if s.offered.length ≥ 1024 then (zSrc, [], 6)
 else ({ s with offered := s.offered ++ [c] }, [toTarget s 8 c], 0)

def store (t : Tgt) (c : Int) : Tgt × List Msg × Int :=
 if checkTarget t ≠ 0 then (zTgt, [], checkTarget t)
 else if c ≤ t.stored then (zTgt, [], 8)
 else if c > 1073741824 then (zTgt, [], 2)
 else ({ t with stored := c }, [toSource t 9 c], 0)

def applyT (t : Tgt) (c : Int) : Tgt × List Msg × Int :=
 if checkTarget t ≠ 0 then (zTgt, [], checkTarget t)
 else if c ≤ t.applied then (zTgt, [], 8)
 else if c > t.stored then (zTgt, [], 15)
 else ({ t with applied := c }, [toSource t 11 c], 0)

def answer (t : Tgt) (m : Msg) : Tgt × List Msg :=
 if checkTarget t ≠ 0 ∨ m.to ≠ t.site ∨ okTime m.epoch = false ∨ (m.kind ≠ 8 ∧ m.kind ≠ 10) then (t, [])
 else if m.epoch < t.epoch then (t, [toSource t 12 0])
 else
  let t' : Tgt := if m.epoch > t.epoch then { t with epoch := m.epoch, stored := t.applied } else t
  if m.kind = 8 then (t', [toSource t' 9 t'.stored]) else (t', [toSource t' 11 t'.applied])

def learn (s : Src) (m : Msg) : Src × List Msg :=
 if checkSource s ≠ 0 ∨ m.frm ≠ s.site ∨ m.epoch < s.epoch ∨ m.epoch > 1073741824 then (s, [])
 else if m.kind ≠ 9 ∧ m.kind ≠ 11 ∧ m.kind ≠ 12 then (s, [])
 else if m.epoch > s.epoch then ({ s with epoch := m.epoch, offered := [], stored := s.applied }, [])
 else if m.kind = 9 then
  if m.value ∈ s.offered ∧ m.value ≥ s.stored then ({ s with stored := m.value }, [toTarget s 10 m.value]) else (s, [])
 else if m.kind = 11 then
  if m.value ∈ s.offered then ({ s with applied := m.value, stored := max s.stored m.value, offered := s.offered.filter fun x => decide (x > m.value) }, []) else (s, [])
 else (s, [])

def resend (s : Src) : List Msg :=
 if checkSource s ≠ 0 then []
 else (if s.stored > s.applied then [toTarget s 10 s.stored] else []) ++ (s.offered.filter fun x => decide (x > s.stored)).map (toTarget s 8)

def releasable (s : Src) : Int := if checkSource s ≠ 0 then 0 else s.applied
end Sx
end
section
open Go
namespace Sx


noncomputable instance : Codec Msg where
 sz := 8
 ok r := ∃ a b c d e f v w, r = [.int .i64 a, .int .i64 b, .int .i64 c, .int .i64 d, .int .i64 e, .int .i64 f, v, w] ∧ v.Is Int ∧ w.Is Byte
 dec r := match r with
  | [.int _ a, .int _ b, .int _ c, .int _ d, .int _ e, .int _ f, v, w] => ⟨a, b, c, d, e, f, v.to Int, w.to Byte⟩
  | _ => ⟨0, 0, 0, 0, 0, 0, [], []⟩
 enc m := [.int .i64 m.kind, .int .i64 m.frm, .int .i64 m.to, .int .i64 m.number, .int .i64 m.value, .int .i64 m.epoch, D.like default m.values, D.like default m.body]
 ok_enc m := ⟨_, _, _, _, _, _, _, _, rfl, D.like_is _ _, D.like_is _ _⟩
 dec_enc m := by simp [D.like_to]
 len r := by rintro ⟨_, _, _, _, _, _, _, _, rfl, _⟩; rfl

@[simp] theorem sz_msg : Codec.sz Msg = 8 := rfl
@[simp] theorem ok_msg (a b c d e f : Int) : Codec.ok Msg [.int .i64 a, .int .i64 b, .int .i64 c, .int .i64 d, .int .i64 e, .int .i64 f, .slc none 0 [], .slc none 0 []] :=
 ⟨_, _, _, _, _, _, _, _, rfl, is_nil _ _, is_nil _ _⟩
@[simp] theorem dec_msg (a b c d e f : Int) : (Codec.dec [.int .i64 a, .int .i64 b, .int .i64 c, .int .i64 d, .int .i64 e, .int .i64 f, .slc none 0 [], .slc none 0 []] : Msg) = ⟨a, b, c, d, e, f, [], []⟩ := rfl

theorem msg_cell {d : D} (h : d.Is Msg) {i : Nat} (hi : i < (d.to Msg).length) :
  d.HasCells i 0 [.int .i64, .int .i64, .int .i64, .int .i64, .int .i64, .int .i64, .slc, .slc] ∧
  d.getInt i 0 = ((d.to Msg)[i]).kind ∧ d.getInt i 1 = ((d.to Msg)[i]).frm ∧ d.getInt i 2 = ((d.to Msg)[i]).to ∧ d.getInt i 3 = ((d.to Msg)[i]).number ∧
  d.getInt i 4 = ((d.to Msg)[i]).value ∧ d.getInt i 5 = ((d.to Msg)[i]).epoch ∧ (d.cell i 6).Is Int ∧ (d.cell i 6).to Int = ((d.to Msg)[i]).values ∧ (d.cell i 7).Is Byte ∧ (d.cell i 7).to Byte = ((d.to Msg)[i]).body := by
 obtain ⟨r, h1, ⟨a, b, c, d', e, f, v, w, rfl, hv, hw⟩, h3⟩ := h.row hi
 rw [h3]
 obtain ⟨p1, p2, p3, rfl⟩ := hv.slc
 obtain ⟨q1, q2, q3, rfl⟩ := hw.slc
 have e : ∀ j, d.cellAt i j = ([.int .i64 a, .int .i64 b, .int .i64 c, .int .i64 d', .int .i64 e, .int .i64 f, .slc p1 p2 p3, .slc q1 q2 q3] : List D)[j]? := fun j => by simp [D.cellAt, h1]
 simp only [D.HasCells, D.HasCell, D.getInt, D.cell, e]
 refine ⟨⟨⟨_, rfl⟩, ⟨_, rfl⟩, ⟨_, rfl⟩, ⟨_, rfl⟩, ⟨_, rfl⟩, ⟨_, rfl⟩, ⟨_, _, _, rfl⟩, ⟨_, _, _, rfl⟩, trivial⟩, rfl, rfl, rfl, rfl, rfl, rfl, hv, rfl, hw, rfl⟩
noncomputable def srcSV (d : D) (s : Src) : SV := .agg [.int .i64 s.epoch, .int .i64 s.site, .dat (d.like s.offered), .int .i64 s.stored, .int .i64 s.applied]
def tgtSV (t : Tgt) : SV := .agg [.int .i64 t.epoch, .int .i64 t.site, .int .i64 t.stored, .int .i64 t.applied]

structure SrcD where
 e : Int
 s : Int
 d : D
 st : Int
 ap : Int
def SrcD.src (x : SrcD) : Src := ⟨x.e, x.s, x.d.to Int, x.st, x.ap⟩

def rdSrc : Rd1 SrcD where
 read x := match x with
  | .agg [.int .i64 e, .int .i64 s, o, .int .i64 st, .int .i64 ap] => match rdD.read o with
   | some d => some ⟨e, s, d, st, ap⟩
   | none => none
  | _ => none
 canon x := .agg [.int .i64 x.e, .int .i64 x.s, .dat x.d, .int .i64 x.st, .int .i64 x.ap]
 right H E x b h hok := by
  split at h
  ·split at h
   ·rename_i hd
    cases h
    obtain ⟨h1, h2⟩ := rdD.right H E _ _ hd hok.2.2.1
    exact ⟨by simp only [SV.den, SV.denL, h1, rdD], trivial, trivial, h2, trivial, trivial, trivial⟩
   ·cases h
  ·cases h

def rdTgt : Rd1 Tgt where
 read x := match x with
  | .agg [.int .i64 e, .int .i64 s, .int .i64 st, .int .i64 ap] => some ⟨e, s, st, ap⟩
  | _ => none
 canon := tgtSV
 right H E x b h hok := by
  split at h
  ·cases h; exact ⟨rfl, by simp [tgtSV, SV.Ok, SV.OkL]⟩
  ·cases h

structure MsgD where
 a : Int
 b : Int
 c : Int
 d : Int
 e : Int
 f : Int
 v : D
 w : D
def MsgD.msg (x : MsgD) : Msg := ⟨x.a, x.b, x.c, x.d, x.e, x.f, x.v.to Int, x.w.to Byte⟩

def rdMsg : Rd1 MsgD where
 read x := match x with
  | .agg [.int .i64 a, .int .i64 b, .int .i64 c, .int .i64 d, .int .i64 e, .int .i64 f, v, w] => match rdD.read v, rdD.read w with
   | some v, some w => some ⟨a, b, c, d, e, f, v, w⟩
   | _, _ => none
  | _ => none
 canon x := .agg [.int .i64 x.a, .int .i64 x.b, .int .i64 x.c, .int .i64 x.d, .int .i64 x.e, .int .i64 x.f, .dat x.v, .dat x.w]
 right H E x b h hok := by
  split at h
  ·split at h
   ·rename_i hv hw
    cases h
    obtain ⟨h1, h2⟩ := rdD.right H E _ _ hv hok.2.2.2.2.2.2.1
    obtain ⟨h3, h4⟩ := rdD.right H E _ _ hw hok.2.2.2.2.2.2.2.1
    exact ⟨by simp only [SV.den, SV.denL, h1, h3, rdD], trivial, trivial, trivial, trivial, trivial, trivial, h2, h4, trivial⟩
   ·cases h
  ·cases h

def idxF (l : List Int) (n : Int) : Int := match l.findIdx? (fun x => n == x) with
 | some i => i
 | none => -1

def spHas (x : D × Int) : SpecR := .scalar [x.1.Is Int ∧ x.1.len ≤ 1048576] (.bool ((x.1.to Int).contains x.2))
def spIdx (x : D × Int) : SpecR := .scalar [x.1.Is Int ∧ x.1.len ≤ 1048576] (.int .i64 (idxF (x.1.to Int) x.2))
def spCS (x : SrcD) : SpecR := .scalar [x.d.Is Int] (.int .i64 (checkSource x.src))
def spRel (x : SrcD) : SpecR := .scalar [x.d.Is Int] (.int .i64 (releasable x.src))
def spCT (x : Tgt) : SpecR := .scalar [] (.int .i64 (checkTarget x))
def spSame (x : SrcD × SrcD) : SpecR := .scalar [x.1.d.Is Int ∧ x.2.d.Is Int ∧ x.1.d.len ≤ 1048576] (.bool (decide (x.1.src = x.2.src)))
def spToTarget (x : SrcD × Int × Int) : SpecR := .data [] fun _ => .agg [.int .i64 x.2.1, .int .i64 0, .int .i64 x.1.s, .int .i64 x.2.2, .int .i64 0, .int .i64 x.1.e, .nils, .nils]
noncomputable def spToSource (x : Tgt × Int × Int) : SpecR := .data [] fun ds => .dat ((ds 0).like [toSource x.1 x.2.1 x.2.2])
noncomputable def spOffered (x : Tgt) : SpecR := .data [] fun ds => .dat ((ds 0).like [toSource x 9 x.stored])
noncomputable def spCommitted (x : Tgt) : SpecR := .data [] fun ds => .dat ((ds 0).like [toSource x 11 x.applied])
noncomputable def spNewS (x : Int × Int × Int) : SpecR := .data [] fun ds => .tup [srcSV (ds 0) (newSource x.1 x.2.1 x.2.2).1, .int .i64 (newSource x.1 x.2.1 x.2.2).2]
def spNewT (x : Int × Int × Int) : SpecR := .data [] fun _ => .tup [tgtSV (newTarget x.1 x.2.1 x.2.2).1, .int .i64 (newTarget x.1 x.2.1 x.2.2).2]
noncomputable def spOffer (x : SrcD × Int) : SpecR := .data [x.1.d.Is Int] fun ds => .tup [srcSV (ds 0) (offer x.1.src x.2).1, .dat ((ds 1).like (offer x.1.src x.2).2.1), .int .i64 (offer x.1.src x.2).2.2]
noncomputable def spStore (f : Tgt → Int → Tgt × List Msg × Int) (x : Tgt × Int) : SpecR := .data [] fun ds => .tup [tgtSV (f x.1 x.2).1, .dat ((ds 0).like (f x.1 x.2).2.1), .int .i64 (f x.1 x.2).2.2]
noncomputable def spAnswer (x : Tgt × MsgD) : SpecR := .data [] fun ds => .tup [tgtSV (answer x.1 x.2.msg).1, .dat ((ds 0).like (answer x.1 x.2.msg).2)]
noncomputable def spLearn (x : SrcD × MsgD) : SpecR := .data [x.1.d.Is Int] fun ds => .tup [srcSV (ds 0) (learn x.1.src x.2.msg).1, .dat ((ds 1).like (learn x.1.src x.2.msg).2)]
noncomputable def spResend (x : SrcD) : SpecR := .data [x.d.Is Int] fun ds => .dat ((ds 0).like (resend x.src))
def spSameMsg (x : MsgD × MsgD) : SpecR := .scalar [x.1.v.Is Int ∧ x.2.v.Is Int ∧ x.1.w.Is Byte ∧ x.2.w.Is Byte ∧ x.1.v.len ≤ 1048576 ∧ x.1.w.to Byte = [] ∧ x.2.w.to Byte = []] (.bool (decide (x.1.msg = x.2.msg)))
noncomputable def spSameMsgs (x : D × D) : SpecR := .scalar [x.1.Is Msg ∧ x.2.Is Msg ∧ x.1.len ≤ 1048576 ∧ (∀ m, m ∈ x.1.to Msg → m.body = [] ∧ m.values = []) ∧ ∀ m, m ∈ x.2.to Msg → m.body = []] (.bool (decide (x.1.to Msg = x.2.to Msg)))
end Sx
end
section
open Go
namespace Sx
abbrev tsI : TS := .int .i64
abbrev tsSrc : List TS := [tsI, tsI, .slc tsI, tsI, tsI]
abbrev tsTgt : List TS := [tsI, tsI, tsI, tsI]
abbrev tsMsg : List TS := [tsI, tsI, tsI, tsI, tsI, tsI, .slc tsI, .slc (.int .u8)]



end Sx
end
section
open Go
namespace Sx
structure Co where
 nodes : Int
 round : Int
 phase : Int
 deadline : Int
 positions : List Int
 seen : List Bool
 valid : Bool
deriving DecidableEq

def badPos (p : Int) : Bool := decide (p < 0) || decide (p > 4096)

def checkCo (c : Co) : Int :=
 if c.nodes < 1 ∨ c.nodes > 8 ∨ okTime c.round = false ∨ okTime c.deadline = false ∨ c.phase < 0 ∨ c.phase > 2 then 3
 else if (c.positions.length : Int) ≠ c.nodes ∨ (c.seen.length : Int) ≠ c.nodes ∨ (c.valid = true ∧ c.phase ≠ 0) then 3
 else if c.positions.any badPos = true then 3
 else 0

def newCo (n : Int) : Co × Int := if n < 1 ∨ n > 8 then (⟨0, 0, 0, 0, [], [], false⟩, 2) else (⟨n, 0, 0, 0, List.replicate n.toNat 0, List.replicate n.toNat false, false⟩, 0)
def zCo : Co := ⟨0, 0, 0, 0, [], [], false⟩
def allMsgs (c : Co) (kind : Int) : List Msg := (List.range c.nodes.toNat).map fun (i : Nat) => ⟨kind, c.nodes, (i : Int), c.round, 0, 0, [], []⟩

def startCo (c : Co) (now patience : Int) : Co × List Msg × Int :=
 if checkCo c ≠ 0 then (zCo, [], 3)
 else if okTime now = false ∨ patience < 1 ∨ patience > 1073741824 - now then (zCo, [], 24)
 else if c.phase ≠ 0 then (zCo, [], 26)
 else if c.round = 1073741824 then (zCo, [], 6)
 else
  let n : Co := { (newCo c.nodes).1 with round := c.round + 1, phase := 1, deadline := now + patience }
  (n, allMsgs n 1, 0)

def resultCo (c : Co) : List Int × Bool := if checkCo c ≠ 0 ∨ c.valid = false then ([], false) else (c.positions, true)

structure CoD where
 n : Int
 r : Int
 p : Int
 dl : Int
 d : D
 s : D
 v : Bool
def CoD.co (x : CoD) : Co := ⟨x.n, x.r, x.p, x.dl, x.d.to Int, x.s.to Bool, x.v⟩

def rdCo : Rd1 CoD where
 read x := match x with
  | .agg [.int .i64 n, .int .i64 r, .int .i64 p, .int .i64 dl, d, s, v] => match rdD.read d, rdD.read s, rdBool.read v with
   | some d, some s, some v => some ⟨n, r, p, dl, d, s, v⟩
   | _, _, _ => none
  | _ => none
 canon x := .agg [.int .i64 x.n, .int .i64 x.r, .int .i64 x.p, .int .i64 x.dl, .dat x.d, .dat x.s, .bool x.v]
 right H E x b h hok := by
  split at h
  ·split at h
   ·rename_i hd hs hv
    cases h
    obtain ⟨h1, h2⟩ := rdD.right H E _ _ hd hok.2.2.2.2.1
    obtain ⟨h3, h4⟩ := rdD.right H E _ _ hs hok.2.2.2.2.2.1
    obtain ⟨h5, h6⟩ := rdBool.right H E _ _ hv hok.2.2.2.2.2.2.1
    exact ⟨by simp only [SV.den, SV.denL, h1, h3, h5, rdD, rdBool], trivial, trivial, trivial, trivial, h2, h4, trivial, trivial⟩
   ·cases h
  ·cases h
def rdFn (f : FuncId) : Rd1 Unit where
 read x := match x with
  | .fn g [] [] => if g == f then some () else none
  | _ => none
 canon _ := .fn f [] []
 right H E x b h hok := by
  split at h
  ·split at h
   ·rename_i hg
    simp at hg
    subst hg
    exact ⟨rfl, trivial, trivial⟩
   ·cases h
  ·cases h

def idxP (l : List Int) (p : Int → Bool) : Int := match l.findIdx? p with
 | some i => i
 | none => -1

def spIdxBad (x : D × Unit) : SpecR := .scalar [x.1.Is Int ∧ x.1.len ≤ 1048576] (.int .i64 (idxP (x.1.to Int) badPos))
def spAnyBad (x : D × Unit) : SpecR := .scalar [x.1.Is Int ∧ x.1.len ≤ 1048576] (.bool ((x.1.to Int).any badPos))
def spCC (x : CoD) : SpecR := .scalar [x.d.Is Int ∧ x.s.Is Bool] (.int .i64 (checkCo x.co))
def spSameInts (x : D × D) : SpecR := .scalar [x.1.Is Int ∧ x.2.Is Int ∧ x.1.len ≤ 1048576] (.bool (decide (x.1.to Int = x.2.to Int)))
noncomputable def coSV (d s : D) (c : Co) : SV := .agg [.int .i64 c.nodes, .int .i64 c.round, .int .i64 c.phase, .int .i64 c.deadline, .dat (d.like c.positions), .dat (s.like c.seen), .bool c.valid]
noncomputable def spNewCo (n : Int) : SpecR := .data [] fun ds => .tup [coSV (ds 0) (ds 1) (newCo n).1, .int .i64 (newCo n).2]
end Sx
end
section
namespace Sx
open Go RowKit
noncomputable def execT (P : Program) (cs : Ctrs) (U : FuncId → Bool) (n : Nat) : Conf → Tree :=
 Nat.rec (motive := fun _ => Conf → Tree) (fun c => .leaf c) (fun _ ih c => stepC P cs U ih c) n

section
variable {P : Program} {C : Ctx} {cs : Ctrs} {R : Value → World → Prop}

theorem execT_sound (hcs : cs.Ok P) (U : FuncId → Bool) : ∀ (n : Nat) (c : Conf), (execT P cs U n c).holds P C R → Runs P C c R
 | 0, _, h => h
 | n + 1, c, h => step_sound (U := U) (ih := execT P cs U n) hcs (fun c h => execT_sound hcs U n c h) c h
theorem runs_ret {fn : FuncId} {aw : Option Tmp} {k : List Item} {tmps : List SV} {mem : Mem} {f : Func} {l : List SV} (hfn : P.funcs[fn]? = some f) (hres : resS P mem tmps f.results.toList = some l)
  (h : ∀ E H w, Good C mem E H w → (one? l).Ok H → R ((one? l).den E) w) : Runs P C ⟨⟨fn, none, aw, .code .ret :: k, tmps⟩, [], mem⟩ R := by
 intro E H w g ok
 obtain ⟨h1, h2⟩ := run_results (P := P) g ok.1 hres
 rw [stkRun_eq]
 simp only [SFrm.den, CFrm.run, List.map_nil, restOf]
 exact Go1.ret hfn rfl h1 (h E H w g h2)
def OwnR (w : World) (H : HV) (e : TypeId) (mk : D → D) (u : Value) (w' : World) : Prop :=
 ∃ E1 H' k h, u = (SV.vec k).den E1 ∧ Good ⟨w, H⟩ [(k, .arr e (mk h))] E1 H' w'
abbrev OSpec := List SV → Option (List Prop × TypeId × (D → D))

def OLaw (P : Program) (f : FuncId) (spec : OSpec) : Prop :=
 Bodied P f = true ∧ ∀ (H : HV) (E : Env) (args : List SV), SV.OkL H args →
  match spec args with
  | some (ps, e, mk) => (∀ p, p ∈ ps → p) → ∀ w, InMem H w → Calls P f (SV.denL E args).toArray w fun r w' => ∃ u, r = .returned u ∧ OwnR w H e mk u w'
  | none => True

def oCtr (spec : OSpec) : Ctr := fun args key m =>
 match spec (closeL (pubsR (leavesL args) m) args) with
 | some (ps, e, mk) => .all ps fun hs => (.vec key, (key, .arr e (mk (hs 0))) :: pubsR (leavesL args) m)
 | none => .bad

theorem keysEq_len : ∀ {a b : Mem}, keysEq a b = true → a.length = b.length
 | [], [], _ => rfl
 | [], _ :: _, h => by simp [keysEq] at h
 | _ :: _, [], h => by simp [keysEq] at h
 | _ :: r, _ :: s, h => by
  simp only [keysEq, Bool.and_eq_true] at h
  simp only [List.length_cons, keysEq_len h.2]

theorem oCtr_ro {spec : OSpec} : CtrRO (oCtr spec) := by
 intro args key m h
 unfold oCtr
 cases hs : spec (closeL (pubsR (leavesL args) m) args) with
 | none => trivial
 | some x =>
  obtain ⟨ps, e, mk⟩ := x
  simp only
  intro hs hk
  have := keysEq_len hk
  simp [pubsR_ro h] at this

theorem ownsRow_mono {w : World} {a b : Nat} {e : TypeId} {sz : Nat} {v : Value} {n : Nat} {xs : List Value} (h : w.ownsRow a e sz v n xs) (hb : b ≤ a) : w.ownsRow b e sz v n xs := by
 obtain ⟨h1, h2⟩ := h
 refine ⟨h1, h2.imp id fun ⟨g, cap, cur, h3, h4, h5⟩ => ⟨g, cap, cur, h3, Nat.le_trans hb h4, h5⟩⟩

theorem oCtr_ok {f : FuncId} {spec : OSpec} (h : OLaw P f spec) : CtrOk P f (oCtr spec) := by
 refine ⟨bodied_spec h.1, fun C E H w args key m g hargs hk hk2 => ?_, oCtr_ro⟩
 obtain ⟨H1, hle, g1, nw⟩ := pubsR_spec (leavesL args) g
 have hpm := pubsR_mem (leavesL args) (m := m)
 obtain ⟨e1, e2⟩ := closeL_spec g1 args (SV.OkL.mono hle _ hargs)
 have hl := h.2 H1 E _ e2
 unfold CallRight oCtr
 cases hs : spec (closeL (pubsR (leavesL args) m) args) with
 | none => simp
 | some x =>
  obtain ⟨ps, e, mk⟩ := x
  simp only [hs] at hl ⊢
  intro hp
  have hc := hl hp w g1.cell
  rw [e1] at hc
  refine Calls.mono hc fun r w' ⟨u, hr, E1, H', k, hd, hu, g2⟩ => ?_
  have g3 := g1.call g2.below g2.ext g2.fresh g2.cell
  have o2 := g2.own k _ (List.mem_singleton.2 rfl)
  have ha := E.agree_setV key (E1.b k) (E1.v k)
  have hk' := has_pubsR (leavesL args) hk
  have hbE : (E.setV key (E1.b k) (E1.v k)).b key = E1.b k := by simp [Env.setV]
  have hvE : (E.setV key (E1.b k) (E1.v k)).v key = E1.v k := by simp [Env.setV]
  obtain ⟨hh, sz, rows, q1, q2, q3, q4, q5, q6⟩ := o2
  have hlow : OBlk.Lies (.arr e (mk hd)) → w.heap.size ≤ E1.b k := by
   intro hl
   rw [q1] at hl q3
   simp only [OBlk.Lies, D.hd] at hl
   cases hh with
   | none => exact absurd rfl hl
   | some ac =>
    obtain ⟨a, c⟩ := ac
    obtain ⟨_, h3⟩ := q3
    have hq6 := (q6 a c rfl).1
    rcases h3 with ⟨h3, _⟩ | ⟨g', cap, cur, h3, h4, _⟩
    ·simp [D.val, hval] at h3
    ·simp only [D.val, hval, Value.slice.injEq, Option.some.injEq] at h3
     have h5 : E1.b k = g' := by have := h3.1; rw [hq6] at this; exact congrArg Addr.block this
     rw [h5]; exact h4
  have g4 : Good C ((key, .arr e (mk hd)) :: pubsR (leavesL args) m) (E.setV key (E1.b k) (E1.v k)) H' w' := by
   refine g3.cons hk' ha (Below.refl _ _) ⟨hh, sz, rows, q1, by rw [hvE]; exact q2, ownsRow_mono q3 g.below.size, q4, q5, fun a c hac => ?_⟩ (fun hl j p hj hlp => ?_)
   ·rw [hbE]; exact q6 a c hac
   ·rw [hbE]
    have h1 := hlow hl
    have h2 := (g1.own j p hj).lt hlp
    omega
  refine ⟨fun _ => hd, E.setV key (E1.b k) (E1.v k), H', by rw [hr, hu]; simp [SV.den, hvE], ha, hle.trans g2.ext, g4, by simp [SV.Ok], ?_⟩
  refine ⟨g2.below.size, fun b hb _ => g2.below.block b hb, fun b x v hx => ?_, fun j o hj => ?_, fun j o hj hl => ?_, g2.below.os, g2.below.tape, g2.below.output⟩
  ·rcases g2.fresh b x v hx with h1 | h1
   ·exact (nw b x v h1).imp id .inr
   ·exact .inr (.inl h1)
  ·rcases List.mem_cons.1 hj with hj | hj
   ·exact Or.inl (congrArg Prod.fst hj)
   ·exact .inr (hpm j o hj).1
  ·rcases List.mem_cons.1 hj with hj | hj
   ·have e1 : j = key := congrArg Prod.fst hj
    have e2 : o = .arr e (mk hd) := congrArg Prod.snd hj
    subst e1; subst e2
    rw [hbE]; exact .inl (hlow hl)
   ·refine .inr ⟨j, o, (hpm j o hj).2 hl, hl, ?_⟩
    exact (ha.1 j (Mem.has_key hk' _ hj).1).1
theorem calls_of {f : FuncId} {H : HV} {args : List SV} {w : World} {R : Value → World → Prop} (hb : Bodied P f = true) (hok : SV.OkL H args) (E : Env) (hc : InMem H w)
  (h : Runs P ⟨w, H⟩ (entry P f args) R) : Calls P f (SV.denL E args).toArray w fun e w' => ∃ v, e = .returned v ∧ R v w' := by
 obtain ⟨fn, hfn, hbs, _⟩ := bodied_spec hb
 cases hbody : fn.body with
 | none => rw [hbody] at hbs; cases hbs
 | some b =>
  simp only [entry, hfn, hbody] at h
  have hr := h E H w (good_start hc E) ⟨okL_append hok (by rw [SV.OkL_iff]; intro x hx; rw [List.eq_of_mem_replicate hx]; simp [SV.Ok]), by simp⟩
  rw [stkRun_eq] at hr
  simp only [List.map_nil, restOf, SFrm.den, CFrm.run] at hr
  have e3 : (SV.denL E args).toArray ++ Array.replicate (fn.ntmps - (SV.denL E args).toArray.size) undef = (SV.denL E (args ++ List.replicate (fn.ntmps - args.length) .undef)).toArray := by
   simp [SV.denL_eq, SV.den, ← List.toArray_replicate]
  exact calls_of_go1 (P := P) (f := f) (args := (SV.denL E args).toArray) (w := w) hfn hbody (by rw [e3]; exact hr)
def spClone (α : Type) [Codec α] (e : TypeId) : OSpec := fun args => match args with
 | [x] => match rdD.read x with
  | some d => some ([d.Is α ∧ d.len ≤ 1048576], e, fun h => .slc h.hd (Codec.sz α) d.rows)
  | none => none
 | _ => none

theorem olaw_clone {f : FuncId} {α : Type} [Codec α] {e : TypeId} (hb : Bodied P f = true)
  (h : ∀ (H : HV) (w : World) (d : D), d.Ok H → d.Is α → d.len ≤ 1048576 → Runs P ⟨w, H⟩ (entry P f [.dat d]) (OwnR w H e fun h => .slc h.hd (Codec.sz α) d.rows)) : OLaw P f (spClone α e) := by
 refine ⟨hb, fun H E args hargs => ?_⟩
 unfold spClone
 split
 ·rename_i heq
  split at heq
  ·rename_i x
   split at heq
   ·rename_i d hd
    cases heq
    intro hp w hc
    obtain ⟨h1, h2⟩ := rdD.right H E x d hd hargs.1
    obtain ⟨p1, p2⟩ := hp _ (List.mem_singleton.2 rfl)
    have := calls_of hb (args := [.dat d]) ⟨h2, trivial⟩ E hc (h H w d h2.1 p1 p2)
    have e1 : SV.denL E [x] = SV.denL E [.dat d] := by simp only [SV.denL]; rw [h1]; rfl
    rw [e1]
    exact this
   ·cases heq
  ·cases heq
 ·trivial
theorem own_nil {w : World} {H : HV} {e : TypeId} {sz : Nat} {mk : D → D} {h : D} (hm : mk h = .slc none sz []) : (Tree.ret .nils).holds P ⟨w, H⟩ (OwnR w H e mk) := by
 intro E H' w' g _
 refine ⟨E.setV 0 0 (none, 0), H', 0, h, by simp [SV.den, Env.setV, hval], ?_⟩
 refine g.cons (by simp [Mem.has]) (E.agree_setV 0 0 (none, 0)) (Below.refl _ _) ?_ (fun _ j p hj _ => by cases hj)
 rw [hm]
 exact ⟨none, sz, [], rfl, by simp [Env.setV], World.ownsRow_nil w' _ e sz, by simp, by simp, by simp⟩
theorem own_ret {w : World} {H : HV} {e : TypeId} {mk : D → D} {fn : FuncId} {aw : Option Tmp} {k : List Item} {tmps : List SV} {mem : Mem} {f : Func} {j : Nat} {d h : D} (hfn : P.funcs[fn]? = some f)
  (hres : resS P mem tmps f.results.toList = some [.vec j]) (hmem : mem = [(j, .arr e d)]) (hd : d = mk h) : (Tree.leaf ⟨⟨fn, none, aw, .code .ret :: k, tmps⟩, [], mem⟩).holds P ⟨w, H⟩ (OwnR w H e mk) := by
 refine runs_ret hfn hres fun E H' w' g _ => ?_
 subst hmem
 subst hd
 exact ⟨E, H', j, h, rfl, g⟩
end
end Sx
end
section
namespace Sx
open Go RowKit
def cellOk (m : Mem) : SV → Bool
 | .int .. => true
 | .bool _ => true
 | .lb _ => true
 | .str _ => true
 | .nils => true
 | .dat _ => true
 | .vec j => match m.get j with
  | some (.arr ..) => true
  | some (.pub _) => true
  | _ => false
 | _ => false

def cellsOk (m : Mem) : List SV → Bool
 | [] => true
 | c :: r => cellOk m c && cellsOk m r
abbrev PSpec := List SV → List SV → Option (List Prop × ((Nat → D) → SV))
def rowD (b : Nat) (row : List D) : D := .slc (some (⟨b, 0, none⟩, 1)) row.length [row]

def PLaw (P : Program) (f : FuncId) (spec : PSpec) : Prop :=
 Bodied P f = true ∧ ∀ (H : HV) (E : Env) (b : Nat) (row : List D) (cs args : List SV), (rowD b row).Ok H → (∀ o, row.length ≤ o → H b o = none) → SV.denL E cs = row.map D.val → SV.OkL H args →
  match spec cs args with
  | some (ps, g) => (∀ p, p ∈ ps → p) → PCall P f H (SV.denL E (.elt (rowD b row) 0 0 :: args)) fun H' u =>
    ∃ hs, u = (g hs).den E ∧ ∀ H2, (∀ b' o v, b' ≠ b → H' b' o = some v → H2 b' o = some v) → (g hs).Ok H2
  | none => True

def pCtr (spec : PSpec) : Ctr := fun args _ m =>
 match args with
 | .ptr k 0 :: rest => match m.get k with
  | some (.cells _ cs) => match cellsOk m cs with
   | true => match spec cs (closeL (pubsR (leavesL rest) m) rest) with
    | some (ps, g) => .all ps fun hs => (g hs, pubsR (leavesL rest) m)
    | none => .bad
   | false => .bad
  | _ => .bad
 | _ => .bad

theorem pCtr_ro {spec : PSpec} : CtrRO (pCtr spec) := by
 intro args key m h
 unfold pCtr
 split
 ·rename_i heq
  split at heq
  ·split at heq
   ·split at heq
    ·split at heq <;> cases heq
    ·cases heq
   ·cases heq
  ·cases heq
 ·rename_i heq
  split at heq
  ·split at heq
   ·split at heq
    ·split at heq
     ·cases heq
      intro hs _
      simp only [pubsR_ro h]
     ·cases heq
    ·cases heq
   ·cases heq
  ·cases heq
 ·trivial

theorem cell_d {C : Ctx} {m : Mem} {E : Env} {H H' : HV} {w : World} (g : Good C m E H w) (hle : HLe H H') {c : SV} (hc : cellOk m c = true) (hok : c.Ok H) : ∃ d : D, d.val = c.den E ∧ d.Ok H' := by
 cases c <;> simp only [cellOk, Bool.false_eq_true] at hc
 case int k n => exact ⟨.int k n, by simp [D.val, SV.den], .int k n⟩
 case bool b => exact ⟨.bool b, by simp [D.val, SV.den], .bool b⟩
 case lb b => exact ⟨.bool b, by simp [D.val, SV.den], .bool b⟩
 case str s => exact ⟨.str s, by simp [D.val, SV.den], .str s⟩
 case nils => exact ⟨.slc none 0 [], by simp [D.val, hval, SV.den], .nil 0⟩
 case dat d => exact ⟨d, by simp [SV.den], hok.1.mono hle⟩
 case vec j =>
  split at hc
  ·rename_i e d hg
   obtain ⟨h, sz, rows, rfl, h2, h3, h4, h5, h6⟩ := g.own j _ (Mem.get_mem hg)
   cases h with
   | none =>
    have hn : rows.length = 0 := by
     rcases h3.2 with h | ⟨g', cap, cur, h, _⟩
     ·exact h.2
     ·simp [D.val, hval] at h
    exact ⟨.slc none 0 [], by simp [D.val, hval, SV.den, h2], .nil 0⟩
   | some ac =>
    obtain ⟨a, c⟩ := ac
    have hn : rows.length ≤ c := by
     rcases h3.2 with h | ⟨g', cap, cur, h, _, _, hcap, _⟩
     ·have := h.1; simp [D.val, hval] at this
     ·simp only [D.val, hval, Value.slice.injEq] at h
      rw [h.2.2]; exact hcap
    refine ⟨.slc (some (a, c)) 0 (List.replicate rows.length []), by simp [D.val, hval, SV.den, h2], .slc a c 0 _ (fun _ => by rw [(h6 a c rfl).1]) (by simpa using hn) (fun r hr => by rw [List.eq_of_mem_replicate hr]; rfl) (fun i j r x hi hj => ?_) (fun r hr x hx => ?_)⟩
    ·have := List.eq_of_mem_replicate (List.mem_of_getElem? hi)
     subst this
     simp at hj
    ·have := List.eq_of_mem_replicate hr
     subst this
     cases hx
  ·rename_i d hg
   obtain ⟨⟨h, sz, rows, rfl, h2⟩, h3⟩ := g.own j _ (Mem.get_mem hg)
   exact ⟨_, by simp [D.val, SV.den, h2], h3.mono hle⟩
  ·cases hc

theorem cells_d {C : Ctx} {m : Mem} {E : Env} {H H' : HV} {w : World} (g : Good C m E H w) (hle : HLe H H') : ∀ {cs : List SV}, cellsOk m cs = true → SV.OkL H cs → ∃ row : List D, row.map D.val = SV.denL E cs ∧ ∀ d, d ∈ row → d.Ok H'
 | [], _, _ => ⟨[], by simp [SV.denL], by simp⟩
 | c :: r, hc, hok => by
  simp only [cellsOk, Bool.and_eq_true] at hc
  obtain ⟨d, h1, h2⟩ := cell_d g hle hc.1 hok.1
  obtain ⟨row, h3, h4⟩ := cells_d g hle hc.2 hok.2
  refine ⟨d :: row, by simp [SV.denL, h1, h3], fun x hx => ?_⟩
  rcases List.mem_cons.1 hx with rfl | hx
  ·exact h2
  ·exact h4 x hx

theorem get_pub_cells {m : Mem} {k : Nat} {t : TypeId} {cs : List SV} (h : m.get k = some (.cells t cs)) (x : SV) : (pubR m x).get k = some (.cells t cs) := by
 unfold pubR
 split
 ·rename_i j
  split
  ·rename_i e d hj
   have hne : k ≠ j := by rintro rfl; rw [h] at hj; cases hj
   rw [Mem.get_set hj]
   simp [hne, h]
  ·exact h
 ·exact h

theorem get_pubs_cells {k : Nat} {t : TypeId} {cs : List SV} : ∀ (l : List SV) {m : Mem}, m.get k = some (.cells t cs) → (pubsR l m).get k = some (.cells t cs)
 | [], _, h => h
 | x :: r, _, h => get_pubs_cells r (get_pub_cells h x)

theorem pCtr_ok {P : Program} {f : FuncId} {spec : PSpec} (h : PLaw P f spec) : CtrOk P f (pCtr spec) := by
 refine ⟨bodied_spec h.1, fun C E H w args key m g hargs hk hk2 => ?_, pCtr_ro⟩
 unfold CallRight
 have hctr : (∃ k rest t cs ps gg, args = .ptr k 0 :: rest ∧ m.get k = some (.cells t cs) ∧ cellsOk m cs = true ∧ spec cs (closeL (pubsR (leavesL rest) m) rest) = some (ps, gg) ∧
   pCtr spec args key m = .all ps fun hs => (gg hs, pubsR (leavesL rest) m)) ∨ pCtr spec args key m = .bad := by
  unfold pCtr
  split
  ·rename_i k rest
   split
   ·rename_i t cs hg
    split
    ·rename_i hcs
     split
     ·rename_i ps gg hs
      exact .inl ⟨k, rest, t, cs, ps, gg, rfl, hg, hcs, hs, rfl⟩
     ·exact .inr rfl
    ·exact .inr rfl
   ·exact .inr rfl
  ·exact .inr rfl
 rcases hctr with ⟨k, rest, t, cs, ps, gg, rfl, hget, hcs, hspec, he⟩ | he
 ·rw [he]
  simp only
  intro hp
  obtain ⟨H1, hle, g1, nw⟩ := pubsR_spec (leavesL rest) g
  have hpm := pubsR_mem (leavesL rest) (m := m)
  obtain ⟨e1, e2⟩ := closeL_spec g1 rest (SV.OkL.mono hle _ hargs.2)
  obtain ⟨c1, c2, c3, c4⟩ := g1.own k _ (Mem.get_mem (get_pubs_cells (leavesL rest) hget))
  -- the cells as public ones
  let Hp : HV := fun b o => if b = E.b k then (SV.denL E cs)[o]? else H1 b o
  have hHp : HLe H1 Hp := fun b o v hv => by
   have : b ≠ E.b k := by rintro rfl; rw [c3] at hv; cases hv
   simp only [Hp, this, if_false, hv]
  obtain ⟨g0own1, g0own2, g0own3, g0ok⟩ := g.own k _ (Mem.get_mem hget)
  obtain ⟨row, r1, r2⟩ := cells_d g (hle.trans hHp) hcs g0ok
  have hrow : (rowD (E.b k) row).Ok Hp := by
   refine .slc _ 1 _ _ (fun _ => rfl) (by simp) (fun r hr => by rw [List.mem_singleton.1 hr]) (fun i j r x hi hj => ?_) (fun r hr x hx => by rw [List.mem_singleton.1 hr] at hx; exact r2 x hx)
   have hi0 : i = 0 := by
    cases i with
    | zero => rfl
    | succ i => simp at hi
   subst hi0
   simp only [List.getElem?_cons_zero, Option.some.injEq] at hi
   subst hi
   simp only [Hp, if_true, ← r1]
   simp [hj]
  have hmem : InMem Hp w := fun b o v hv => by
   simp only [Hp] at hv
   split at hv
   ·rename_i hb
    subst hb
    simp only [World.cell?, c2]
    simpa using hv
   ·exact g1.cell b o v hv
  have hl := h.2 Hp E (E.b k) row cs (closeL (pubsR (leavesL rest) m) rest) hrow (fun o ho => by
   have : row.length = (SV.denL E cs).length := by rw [← r1]; simp
   simp only [Hp, if_true]
   exact List.getElem?_eq_none (by omega)) r1.symm (SV.OkL.mono hHp _ e2)
  rw [hspec] at hl
  have hc := hl hp w hmem
  have eargs : SV.denL E (.elt (rowD (E.b k) row) 0 0 :: closeL (pubsR (leavesL rest) m) rest) = SV.denL E (.ptr k 0 :: rest) := by
   simp only [SV.denL, e1, SV.den, rowD, D.addr, D.hd]
   simp
  rw [eargs] at hc
  refine Calls.mono hc fun e w' ⟨u, H', he', ha, hs, hu, hok⟩ => ?_
  let H2 : HV := fun b o => if b = E.b k then none else H' b o
  have hle2 : HLe H1 H2 := fun b o v hv => by
   have hb : b ≠ E.b k := by rintro rfl; rw [c3] at hv; cases hv
   simp only [H2, hb, if_false]
   exact ha.le b o v (hHp b o v hv)
  have hfr : ∀ b o v, H2 b o = some v → H1 b o = some v ∨ w.heap.size ≤ b := fun b o v hv => by
   simp only [H2] at hv
   split at hv
   ·cases hv
   ·rename_i hb
    rcases ha.fresh b o v hv with h3 | h3
    ·simp only [Hp, hb, if_false] at h3; exact .inl h3
    ·exact .inr h3
  have hcell : ∀ b o v, H2 b o = some v → w'.cell? ⟨b, o, none⟩ = some v := fun b o v hv => by
   simp only [H2] at hv
   split at hv
   ·cases hv
   ·exact ha.cell b o v hv
  refine ⟨hs, E, H2, by rw [he', hu], Agree.refl _ _, hle.trans hle2, g1.call ha.below hle2 hfr hcell, hok H2 (fun b' o v hb hv => by simp only [H2, hb, if_false]; exact hv), ha.below.size, fun b hb _ => ha.below.block b hb, fun b x v hv => ?_,
   fun k o h => .inr (hpm k o h).1, fun k o h hl => .inr ⟨k, o, (hpm k o h).2 hl, hl, rfl⟩, ha.below.os, ha.below.tape, ha.below.output⟩
  rcases hfr b x v hv with h1 | h1
  ·exact (nw b x v h1).imp id .inr
  ·exact .inr (.inl h1)
 ·rw [he]; trivial
end Sx
end
section
open Go
namespace Sx

theorem vecTo {P : Program} {C : Ctx} {R : Value → World → Prop} (K : Nat) (e : TypeId) (sz : Nat) (blk : Option Nat) (off : Nat) {c : Conf} (c' : Conf)
  (hc : (vecIn K e sz blk off c).map (fun c => sortC (renC c)) = some c') (h : Runs P C c' R) : Runs P C c R := by
 cases hv : vecIn K e sz blk off c with
 | none => rw [hv] at hc; cases hc
 | some c2 =>
  rw [hv] at hc
  cases hc
  exact vecIn_sound hv (renC_sound (sortC_sound h))
def msgsTo (n r kind : Int) : List Msg := (List.range n.toNat).map fun (i : Nat) => ⟨kind, n, (i : Int), r, 0, 0, [], []⟩

theorem allMsgs_eq (c : Co) (kind : Int) : allMsgs c kind = msgsTo c.nodes c.round kind := rfl

noncomputable def spAllP : PSpec := fun cs args => match cs with
 | .int .i64 n :: .int .i64 r :: _ => match args with
  | [.int .i64 k] => match cs.length with
   | 7 => some ([n ≤ 8], fun ds => .dat ((ds 0).like (msgsTo n r k)))
   | _ => none
  | _ => none
 | _ => none
noncomputable def spAll2 (x : CoD × Int) : SpecR := .data [x.1.n ≤ 8] fun ds => .dat ((ds 0).like (msgsTo x.1.n x.1.r x.2))

noncomputable def spRes (x : CoD) : SpecR := .data [x.d.Is Int ∧ x.s.Is Bool] fun ds => .tup [.dat ((ds 0).like (resultCo x.co).1), .bool (resultCo x.co).2]
noncomputable def spStart (x : CoD × Int × Int) : SpecR := .data [x.1.d.Is Int ∧ x.1.s.Is Bool] fun ds =>
 .tup [coSV (ds 0) (ds 1) (startCo x.1.co x.2.1 x.2.2).1, .dat ((ds 2).like (startCo x.1.co x.2.1 x.2.2).2.1), .int .i64 (startCo x.1.co x.2.1 x.2.2).2.2]
def spSameCo (x : CoD × CoD) : SpecR := .scalar [x.1.d.Is Int ∧ x.1.s.Is Bool ∧ x.2.d.Is Int ∧ x.2.s.Is Bool ∧ x.1.d.len ≤ 1048576 ∧ x.1.s.len ≤ 1048576] (.bool (decide (x.1.co = x.2.co)))
noncomputable def spSameMsgs3 (x : D × D) : SpecR := .scalar [x.1.Is Msg ∧ x.2.Is Msg ∧ x.1.len ≤ 1048576 ∧ (∀ m, m ∈ x.1.to Msg → m.body = [] ∧ m.values = []) ∧ ∀ m, m ∈ x.2.to Msg → m.body = []] (.bool (decide (x.1.to Msg = x.2.to Msg)))
noncomputable def ctB : Ctrs := [(17, ctrOf (rdCo.one.sp spCC)), (18, ctrOf (rdCo.one.sp spCC)), (19, ctrOf (rdInt.one.sp spNewCo)), (20, ctrOf (rdInt.one.sp spNewCo)), (23, ctrOf ((rdD.two rdD).sp spSameInts)),
 (50, pCtr spAllP), (51, ctrOf ((rdCo.two rdInt).sp spAll2)), (54, oCtr (spClone Int 3)), (82, oCtr (spClone Bool 4))]
end Sx
end
section
open Go
namespace Sx
structure Mb where
 round : Int
 position : Int
 thawed : Int
 issued : Int
 frozen : Bool
 upto : Int
 waiting : List Int
 held : List Int
deriving DecidableEq

def badW (issued : Int) (l : List Int) (i : Nat) : Bool := decide (l.getD i 0 < 0) || decide (l.getD i 0 ≥ issued) || (decide (0 < i) && decide (l.getD i 0 ≤ l.getD (i - 1) 0))
def badH (issued : Int) (w l : List Int) (i : Nat) : Bool := decide (l.getD i 0 < 0) || decide (l.getD i 0 ≥ issued) || (l.take i).contains (l.getD i 0) || w.contains (l.getD i 0)

def headMb (m : Mb) : Bool := decide (¬(okTime m.round = false ∨ okTime m.upto = false ∨ m.thawed < 0 ∨ m.thawed > m.round ∨ m.position < 0 ∨ m.position > m.issued ∨ m.issued > 4096 ∨ (m.frozen = false ∧ m.held ≠ [])))

def checkMb (m : Mb) : Int :=
 if headMb m = false then 3
 else if (List.range m.waiting.length).any (badW m.issued m.waiting) = true then 3
 else if (List.range m.held.length).any (badH m.issued m.waiting m.held) = true then 3
 else 0

def issueMb (m : Mb) : Mb × Int :=
 if checkMb m ≠ 0 ∨ m.issued = 4096 then (m, -1) else ({ m with waiting := m.waiting ++ [m.issued], issued := m.issued + 1 }, m.issued)

def thawMb (m : Mb) : Mb × List Int := ({ m with frozen := false, held := [] }, m.held)

def ansTo (msg : Msg) (kind value : Int) : List Msg := [⟨kind, msg.to, msg.frm, msg.number, value, 0, [], []⟩]

def endMb (m : Mb) (now : Int) (msg : Msg) : Mb × List Int × List Msg :=
 if m.frozen = false then (m, [], ansTo msg 4 (if m.thawed = m.round then 1 else 0))
 else if now < m.upto then ({ m with thawed := m.round, frozen := false, held := [] }, m.held, ansTo msg 4 1)
 else ({ m with frozen := false, held := [] }, m.held, ansTo msg 4 0)

def clampT (lo n : Int) : Int := min (max n lo) 1073741824

def obeyMb (m : Mb) (now patience : Int) (msg : Msg) : Mb × List Int × List Msg :=
 if checkMb m ≠ 0 ∨ msg.number < 1 ∨ msg.number > 1073741824 then (m, [], [])
 else if msg.kind = 1 then
  if msg.number > m.round then ({ m with round := msg.number, position := m.issued, frozen := true, upto := min (clampT 0 now + clampT 1 patience) 1073741824 }, [], ansTo msg 2 m.issued)
  else if msg.number = m.round ∧ m.frozen = true then (m, [], ansTo msg 2 m.position)
  else (m, [], [])
 else if msg.kind = 3 then
  if msg.number = m.round then endMb m (clampT 0 now) msg
  else if msg.number > m.round then (m, [], ansTo msg 4 0)
  else (m, [], [])
 else if msg.kind = 24 then
  if msg.number = m.round ∧ m.frozen = true then ({ m with frozen := false, held := [] }, m.held, [])
  else (m, [], [])
 else (m, [], [])

def giveUpCo (c : Co) : Co × List Msg := ({ c with phase := 0, valid := false }, msgsTo c.nodes c.round 24)

def collectCo (c : Co) (now : Int) (m : Msg) : Co × List Msg :=
 if checkCo c ≠ 0 ∨ c.phase = 0 ∨ now ≥ c.deadline ∨ m.frm < 0 ∨ m.frm ≥ c.nodes ∨ m.number ≠ c.round then (c, [])
 else if m.kind = 2 then
  if c.phase ≠ 1 ∨ m.value < 0 ∨ m.value > 4096 ∨ c.seen.getD m.frm.toNat true = true then (c, [])
  else if (c.seen.set m.frm.toNat true).all id = true then
   ({ c with positions := c.positions.set m.frm.toNat m.value, phase := 2, seen := List.replicate c.nodes.toNat false }, msgsTo c.nodes c.round 3)
  else ({ c with positions := c.positions.set m.frm.toNat m.value, seen := c.seen.set m.frm.toNat true }, [])
 else if m.kind = 4 then
  if c.phase ≠ 2 then (c, [])
  else if m.value ≠ 1 then giveUpCo c
  else if (c.seen.set m.frm.toNat true).all id = true then ({ c with seen := c.seen.set m.frm.toNat true, phase := 0, valid := true }, [])
  else ({ c with seen := c.seen.set m.frm.toNat true }, [])
 else (c, [])

def expireCo (c : Co) (now : Int) : Co × List Msg := if checkCo c ≠ 0 ∨ c.phase = 0 ∨ now < c.deadline then (c, []) else giveUpCo c

structure MbD where
 r : Int
 p : Int
 t : Int
 i : Int
 f : Bool
 u : Int
 w : D
 h : D
def MbD.mb (x : MbD) : Mb := ⟨x.r, x.p, x.t, x.i, x.f, x.u, x.w.to Int, x.h.to Int⟩

def rdMb : Rd1 MbD where
 read x := match x with
  | .agg [.int .i64 r, .int .i64 p, .int .i64 t, .int .i64 i, f, .int .i64 u, w, h] => match rdBool.read f, rdD.read w, rdD.read h with
   | some f, some w, some h => some ⟨r, p, t, i, f, u, w, h⟩
   | _, _, _ => none
  | _ => none
 canon x := .agg [.int .i64 x.r, .int .i64 x.p, .int .i64 x.t, .int .i64 x.i, .bool x.f, .int .i64 x.u, .dat x.w, .dat x.h]
 right H E x b h hok := by
  split at h
  ·split at h
   ·rename_i hf hw hh
    cases h
    obtain ⟨h1, h2⟩ := rdBool.right H E _ _ hf hok.2.2.2.2.1
    obtain ⟨h3, h4⟩ := rdD.right H E _ _ hw hok.2.2.2.2.2.2.1
    obtain ⟨h5, h6⟩ := rdD.right H E _ _ hh hok.2.2.2.2.2.2.2.1
    exact ⟨by simp only [SV.den, SV.denL, h1, h3, h5, rdD, rdBool], trivial, trivial, trivial, trivial, trivial, trivial, h4, h6, trivial⟩
   ·cases h
  ·cases h

noncomputable def mbSV (w h : D) (m : Mb) : SV := .agg [.int .i64 m.round, .int .i64 m.position, .int .i64 m.thawed, .int .i64 m.issued, .bool m.frozen, .int .i64 m.upto, .dat (w.like m.waiting), .dat (h.like m.held)]

def MbD.Right (x : MbD) : Prop := x.w.Is Int ∧ x.h.Is Int ∧ x.w.len ≤ 1048575 ∧ x.h.len ≤ 1048575

def spHas21 (x : D × Int) : SpecR := .scalar [x.1.Is Int ∧ x.1.len ≤ 1048576] (.bool ((x.1.to Int).contains x.2))
def spIdx21 (x : D × Int) : SpecR := .scalar [x.1.Is Int ∧ x.1.len ≤ 1048576] (.int .i64 (idxP (x.1.to Int) fun y => x.2 == y))
def spEvery (x : D) : SpecR := .scalar [x.Is Bool ∧ x.len ≤ 1048576] (.bool ((x.to Bool).all id))
def spCM (x : MbD) : SpecR := .scalar [x.Right] (.int .i64 (checkMb x.mb))
noncomputable def spIssue (x : MbD) : SpecR := .data [x.Right] fun ds => .tup [mbSV (ds 0) (ds 1) (issueMb x.mb).1, .int .i64 (issueMb x.mb).2]
noncomputable def spThaw (x : MbD) : SpecR := .data [x.Right] fun ds => .tup [mbSV (ds 0) (ds 1) (thawMb x.mb).1, .dat ((ds 2).like (thawMb x.mb).2)]
noncomputable def spAns (x : MsgD × Int × Int) : SpecR := .data [] fun ds => .dat ((ds 0).like (ansTo x.1.msg x.2.1 x.2.2))
noncomputable def spEnd (x : MbD × Int × MsgD) : SpecR := .data [x.1.Right] fun ds =>
 .tup [mbSV (ds 0) (ds 1) (endMb x.1.mb x.2.1 x.2.2.msg).1, .dat ((ds 2).like (endMb x.1.mb x.2.1 x.2.2.msg).2.1), .dat ((ds 3).like (endMb x.1.mb x.2.1 x.2.2.msg).2.2)]
noncomputable def spObey (x : MbD × Int × Int × MsgD) : SpecR := .data [x.1.Right] fun ds =>
 .tup [mbSV (ds 0) (ds 1) (obeyMb x.1.mb x.2.1 x.2.2.1 x.2.2.2.msg).1, .dat ((ds 2).like (obeyMb x.1.mb x.2.1 x.2.2.1 x.2.2.2.msg).2.1), .dat ((ds 3).like (obeyMb x.1.mb x.2.1 x.2.2.1 x.2.2.2.msg).2.2)]
noncomputable def spGive (x : CoD) : SpecR := .data [x.d.Is Int ∧ x.s.Is Bool ∧ x.n ≤ 8] fun ds => .tup [coSV (ds 0) (ds 1) (giveUpCo x.co).1, .dat ((ds 2).like (giveUpCo x.co).2)]
noncomputable def spColl (x : CoD × Int × MsgD) : SpecR := .data [x.1.d.Is Int ∧ x.1.s.Is Bool] fun ds =>
 .tup [coSV (ds 0) (ds 1) (collectCo x.1.co x.2.1 x.2.2.msg).1, .dat ((ds 2).like (collectCo x.1.co x.2.1 x.2.2.msg).2)]
noncomputable def spExp (x : CoD × Int) : SpecR := .data [x.1.d.Is Int ∧ x.1.s.Is Bool] fun ds => .tup [coSV (ds 0) (ds 1) (expireCo x.1.co x.2).1, .dat ((ds 2).like (expireCo x.1.co x.2).2)]
def spSameMb (x : MbD × MbD) : SpecR := .scalar [x.1.Right ∧ x.2.Right] (.bool (decide (x.1.mb = x.2.mb)))
end Sx
end
section
open Go
namespace Sx
abbrev tsCo : List TS := [tsI, tsI, tsI, tsI, .slc tsI, .slc .bool, .bool]
abbrev tsMb : List TS := [tsI, tsI, tsI, tsI, .bool, tsI, .slc tsI, .slc tsI]
abbrev tsCall : List TS := [.st tsMsg, tsI, tsI]


end Sx
end
section
open Go
namespace Sx
noncomputable def ctM : Ctrs := (38, ctrOf (rdMb.one.sp spCM)) :: (39, ctrOf (rdMb.one.sp spCM)) :: (34, ctrOf ((rdD.two rdInt).sp spHas21)) :: (73, ctrOf ((rdD.two rdInt).sp spHas21)) :: (58, ctrOf ((rdMsg.three rdInt rdInt).sp spAns)) ::
 (59, ctrOf ((rdMb.three rdInt rdMsg).sp spEnd)) :: (60, ctrOf (rdMb.one.sp spThaw)) :: (64, ctrOf (rdD.one.sp spEvery)) :: (65, ctrOf (rdCo.one.sp spGive)) :: ctB
end Sx
end
section
namespace Sx
open Go RowKit Go.Sort
def Deletes (P : Program) (f : FuncId) : Prop := ∀ (blk cap i j : Nat) (zs : List Int) (w : World), Holds (Value.int .i64) w blk 0 zs.toArray → zs.length ≤ cap → cap ≤ 9223372036854775807 → i ≤ j → j ≤ zs.length →
 Calls P f #[.slice (some ⟨blk, 0, none⟩) zs.length cap, .int .i64 i, .int .i64 j] w fun e w' => e = .returned (.slice (some ⟨blk, 0, none⟩) (zs.length - (j - i)) cap) ∧ ∃ q, w' = putRow (Value.int .i64) (Sort.ahead w q) blk 0 (zs.take i ++ zs.drop j ++ List.replicate (j - i) 0).toArray

def dCtr (e : TypeId) : Ctr := fun args key m => match args with
 | [.vec k, .int .i64 i, .int .i64 j] => match m.get k with
  | some (.arr e' d) => if e' = e then .all [d.Is Int ∧ 0 ≤ i ∧ i < j ∧ j ≤ (d.len : Int)] fun _ => (.vec key, (key, .arr e (.slc d.hd d.sz (d.rows.take i.toNat ++ d.rows.drop j.toNat))) :: m.del k) else .bad
  | _ => .bad
 | _ => .bad

theorem roM_arr : ∀ {m : Mem} {k : Nat} {e : TypeId} {d : D}, roM m = true → m.get k = some (.arr e d) → False
 | [], _, _, _, _, h => by simp [Mem.get] at h
 | (j, o) :: r, k, e, d, h, hg => by
  simp only [Mem.get] at hg
  split at hg
  ·cases hg; simp [roM] at h
  ·cases o <;> simp [roM] at h
   ·exact roM_arr h hg
   ·exact roM_arr h hg

theorem dCtr_ro (e : TypeId) : CtrRO (dCtr e) := by
 intro args key m h
 have hb : dCtr e args key m = .bad := by
  unfold dCtr
  split
  ·split
   ·rename_i hg
    exact (roM_arr h hg).elim
   ·rfl
  ·rfl
 rw [hb]
 trivial


theorem flat_ints : ∀ {rows : List (List D)} {zs : List Int}, SRows Int rows zs → flat rows = zs.map (Value.int .i64)
 | [], zs, h => by rw [← h.2]; rfl
 | r :: rs, zs, h => by
  obtain ⟨n, rfl⟩ := h.1 r List.mem_cons_self
  have ih := flat_ints (rows := rs) (zs := rs.map (Codec.dec (α := Int))) ⟨fun r hr => h.1 r (List.mem_cons_of_mem _ hr), rfl⟩
  rw [← h.2, List.map_cons, List.map_cons, ← ih]
  rfl

theorem rows_take {α : Type} [Codec α] {rows : List (List D)} {xs : List α} (h : SRows α rows xs) (i : Nat) : SRows α (rows.take i) (xs.take i) :=
 ⟨fun r hr => h.1 r (List.mem_of_mem_take hr), by rw [List.map_take, h.2]⟩
theorem rows_drop {α : Type} [Codec α] {rows : List (List D)} {xs : List α} (h : SRows α rows xs) (i : Nat) : SRows α (rows.drop i) (xs.drop i) :=
 ⟨fun r hr => h.1 r (List.mem_of_mem_drop hr), by rw [List.map_drop, h.2]⟩
theorem rows_zero (n : Nat) : SRows Int (List.replicate n [D.int .i64 0]) (List.replicate n 0) :=
 ⟨fun r hr => by rw [List.eq_of_mem_replicate hr]; exact ⟨0, rfl⟩, by simp [List.map_replicate, Codec.dec, D.getInt]⟩

theorem int_okH {H : HV} {rows : List (List D)} {zs : List Int} (h : SRows Int rows zs) : ∀ r, r ∈ rows → ∀ x, x ∈ r → D.Ok H x := by
 intro r hr x hx
 obtain ⟨n, rfl⟩ := h.1 r hr
 rw [List.mem_singleton.1 hx]
 exact .int _ _
theorem int_len1 {rows : List (List D)} {zs : List Int} (h : SRows Int rows zs) : ∀ r, r ∈ rows → r.length = 1 := by
 intro r hr
 obtain ⟨n, rfl⟩ := h.1 r hr
 rfl

theorem putCells_take {cur : Array Value} {zs : List Int} (h : zs.length ≤ cur.size) : (putCells (Value.int .i64) 0 zs.toArray cur).toList.take zs.length = zs.map (Value.int .i64) := by
 apply List.ext_getElem?
 intro k
 rw [List.getElem?_take]
 by_cases hk : k < zs.length
 ·rw [if_pos hk]
  have hk2 : k < (putCells (Value.int .i64) 0 zs.toArray cur).toList.length := by simp [putCells]; omega
  rw [List.getElem?_eq_getElem hk2]
  simp [putCells, hk]
 ·rw [if_neg hk, List.getElem?_eq_none (by simp; omega)]

theorem dCtr_ok {P : Program} {f : FuncId} {e : TypeId} (hb : ∃ fn, P.funcs[f]? = some fn ∧ fn.body.isSome = true ∧ (fn.name == "runtime.NumGoroutine") = false) (hd : Deletes P f) : CtrOk P f (dCtr e) := by
 refine ⟨hb, fun C E H w args key m g hargs hk hk2 => ?_, dCtr_ro e⟩
 unfold CallRight dCtr
 split
 ·rename_i r v m2 heq
  split at heq
  ·split at heq
   ·split at heq <;> cases heq
   ·cases heq
  ·cases heq
 ·rename_i r ps gg heq
  split at heq
  ·rename_i k i j
   split at heq
   ·rename_i e' d hkk
    split at heq
    ·rename_i he
     subst he
     cases heq
     intro hp
     obtain ⟨h0, h1, h2, h3⟩ := hp _ (List.mem_singleton.2 rfl)
     have hmem := Mem.get_mem hkk
     have hown := g.own k _ hmem
     obtain ⟨hd', sz, rows, rfl, hv, how, hl, hk3, ha⟩ := hown
     have hR := rows_of h0
     simp only [D.rows] at hR
     generalize hzs : D.to Int (D.slc hd' sz rows) = zs at hR
     have hrl := rows_len hR
     simp only [D.len, D.rows] at h3
     have hsz : sz = 1 := by
      have h4 : 0 < rows.length := by omega
      have := hl rows[0] (List.getElem_mem h4)
      rw [int_len1 hR _ (List.getElem_mem h4)] at this
      exact this.symm
     subst hsz
     rcases how with ⟨hfl, hcase⟩
     rcases hcase with ⟨hq, h4⟩ | ⟨g', cap, cur, hq, hbase, hg, hnc, hcm, hcs, htake⟩
     ·omega
     ·cases hd' with
      | none => simp [D.val, hval] at hq
      | some ac =>
       obtain ⟨a, c⟩ := ac
       obtain ⟨rfl, hno⟩ := ha a c rfl
       simp only [D.val, hval, Value.slice.injEq, Option.some.injEq, Addr.mk.injEq] at hq
       obtain ⟨⟨hgb, _, _⟩, _, rfl⟩ := hq
       subst hgb
       rw [flat_ints hR, Nat.mul_one] at htake
       rw [Nat.mul_one] at hcs
       have hH : Holds (Value.int .i64) w (E.b k) 0 zs.toArray := by
        intro t ht
        simp only [List.size_toArray] at ht
        constructor
        ·simp only [World.cell?, hg, Nat.zero_add]
         have h5 : cur[t]? = (zs.map (Value.int .i64))[t]? := by
          rw [← htake, List.getElem?_take, if_pos (by omega), Array.getElem?_toList]
         simp [h5, ht]
        ·simp [World.frozen?, hg]
       obtain ⟨i', rfl⟩ := Int.eq_ofNat_of_zero_le h1
       obtain ⟨j', rfl⟩ := Int.eq_ofNat_of_zero_le (show 0 ≤ j by omega)
       have hcall := hd (E.b k) c i' j' zs w hH (by omega) (by simp only [maxLen] at hcm; omega) (by omega) (by omega)
       have hargs' : (SV.denL E [.vec k, .int .i64 (i' : Int), .int .i64 (j' : Int)]).toArray = #[.slice (some ⟨E.b k, 0, none⟩) zs.length c, .int .i64 i', .int .i64 j'] := by
        simp [SV.denL, SV.den, hv, hval, hrl]
       simp only [Int.toNat_natCast]
       rw [hargs']
       refine hcall.mono ?_
       rintro ev w' ⟨rfl, q, hw'⟩
       -- the rows behind the call
       generalize hzs' : (zs.take i' ++ zs.drop j' ++ List.replicate (j' - i') 0) = zs' at hw'
       have hzl : zs'.length = zs.length := by rw [← hzs']; simp; omega
       have hR' : SRows Int (rows.take i' ++ rows.drop j' ++ List.replicate (j' - i') [D.int .i64 0]) zs' := by
        rw [← hzs']
        exact rows_app (rows_app (rows_take hR i') (rows_drop hR j')) (rows_zero _)
       have hheap : w'.heap[E.b k]? = some (.cells (putCells (Value.int .i64) 0 zs'.toArray cur) e' (0, 0)) := by
        rw [hw']; simp [putRow, mapBlock, Sort.ahead, Array.getElem?_modify, hg, onCells]
       have hother : ∀ b, b ≠ E.b k → w'.heap[b]? = w.heap[b]? := by
        intro b hb
        rw [hw']; simp [putRow, mapBlock, Sort.ahead, Array.getElem?_modify, Ne.symm hb]
       have hsize : w'.heap.size = w.heap.size := by rw [hw']; simp [putRow, mapBlock, Sort.ahead]
       have hos : w'.os = w.os := by rw [hw']; rfl
       have htp : w'.tape = w.tape := by rw [hw']; rfl
       have hou : w'.output = w.output := by rw [hw']; rfl
       have hrow' := hR'
       have hcs' : (putCells (Value.int .i64) 0 zs'.toArray cur).size = c := by simp [putCells, hcs]
       have g1 : Good C (m.set k (.arr e' (.slc (some (⟨E.b k, 0, none⟩, c)) 1 (rows.take i' ++ rows.drop j' ++ List.replicate (j' - i') [D.int .i64 0])))) E H w' := by
        refine g.put hkk hother hos htp hou hsize (by simp [OBlk.Lies, D.hd]) ?_
        refine ⟨some (⟨E.b k, 0, none⟩, c), 1, _, rfl, by rw [hv]; simp; omega, ?_, int_len1 hR', int_okH hR', fun a c' h => by cases h; exact ⟨rfl, hno⟩⟩
        refine ⟨by rw [flat_ints hR', List.length_map, rows_len hR', Nat.mul_one], .inr ⟨E.b k, c, _, by simp [D.val, hval], hbase, hheap, by rw [rows_len hR', hzl]; omega, hcm, by rw [hcs', Nat.mul_one], ?_⟩⟩
        rw [flat_ints hR', rows_len hR', Nat.mul_one]
        exact putCells_take (by rw [hzl, hcs]; omega)
       have hspec := Mem.set_spec (o' := .arr e' (.slc (some (⟨E.b k, 0, none⟩, c)) 1 (rows.take i' ++ rows.drop j' ++ List.replicate (j' - i') [D.int .i64 0]))) g.keys hkk
       have hdel := fun j p => Mem.del_ne (j := j) (p := p) g.keys hmem
       have g2 : Good C (m.del k) E H w' := by
        refine ⟨g1.below, g1.ext, g1.fresh, g1.cell, fun j o hj => ?_, (g.sub (m.del_sub k)).keys, (g.sub (m.del_sub k)).apart⟩
        have h5 := g.own j o (Mem.del_mem hj)
        refine h5.keep (fun hl2 => hother _ ?_)
        exact g.apart (j, o) (k, _) (Mem.del_mem hj) hmem (hdel j o hj) hl2 (by simp [OBlk.Lies, D.hd])
       have hRn : SRows Int (rows.take i' ++ rows.drop j') (zs.take i' ++ zs.drop j') := rows_app (rows_take hR i') (rows_drop hR j')
       have hln : (rows.take i' ++ rows.drop j').length = zs.length - (j' - i') := by rw [rows_len hRn]; simp; omega
       have hka := E.agree_setV key (E.b k) (some (⟨E.b k, 0, none⟩, c), (rows.take i' ++ rows.drop j').length)
       have hbE : (E.setV key (E.b k) (some (⟨E.b k, 0, none⟩, c), (rows.take i' ++ rows.drop j').length)).b key = E.b k := by simp [Env.setV]
       have hvE : (E.setV key (E.b k) (some (⟨E.b k, 0, none⟩, c), (rows.take i' ++ rows.drop j').length)).v key = (some (⟨E.b k, 0, none⟩, c), (rows.take i' ++ rows.drop j').length) := by simp [Env.setV]
       have g3 : Good C ((key, .arr e' (.slc (some (⟨E.b k, 0, none⟩, c)) 1 (rows.take i' ++ rows.drop j'))) :: m.del k) (E.setV key (E.b k) (some (⟨E.b k, 0, none⟩, c), (rows.take i' ++ rows.drop j').length)) H w' := by
        refine g2.cons (Mem.has_del hk) hka (Below.refl _ _) ?_ (fun _ j p hj hlp => ?_)
        ·refine ⟨some (⟨E.b k, 0, none⟩, c), 1, _, rfl, by rw [hvE], ?_, int_len1 hRn, int_okH hRn, fun a c' h => by cases h; rw [hbE]; exact ⟨rfl, hno⟩⟩
         refine ⟨by rw [flat_ints hRn, List.length_map, rows_len hRn, Nat.mul_one], .inr ⟨E.b k, c, _, by simp [D.val, hval], hbase, hheap, by rw [hln]; omega, hcm, by rw [hcs', Nat.mul_one], ?_⟩⟩
         have h6 := putCells_take (cur := cur) (zs := zs') (by rw [hzl, hcs]; omega)
         rw [Nat.mul_one, hln, flat_ints hRn]
         have h7 := congrArg (List.take (zs.length - (j' - i'))) h6
         rw [List.take_take, Nat.min_eq_left (by omega)] at h7
         rw [h7, ← List.map_take, ← hzs', List.take_append_of_le_length (by simp; omega), List.take_of_length_le (by simp; omega)]
        ·rw [hbE]
         exact (g.apart (j, p) (k, _) (Mem.del_mem hj) hmem (hdel j p hj) hlp (by simp [OBlk.Lies, D.hd])).symm
       refine ⟨fun _ => .bool false, _, H, ?_, hka, HLe.refl _, g3, by simp [SV.Ok], ?_⟩
       ·have hden : (SV.vec key).den (E.setV key (E.b k) (some (⟨E.b k, 0, none⟩, c), (rows.take i' ++ rows.drop j').length)) = .slice (some ⟨E.b k, 0, none⟩) (zs.length - (j' - i')) c := by
         simp only [SV.den, hvE, hval]
         rw [hln]
        exact congrArg _ hden.symm
       ·refine ⟨by rw [hsize]; exact Nat.le_refl _, fun b hb hno' => hother b (fun e1 => hno' k _ hmem (by simp [OBlk.Lies, D.hd]) e1.symm), fun _ _ _ h => .inl h, fun q o hq => ?_, fun q o hq hl2 => ?_, hos, htp, hou⟩
        ·rcases List.mem_cons.1 hq with hq | hq
         ·exact .inl (congrArg Prod.fst hq)
         ·exact .inr ⟨o, Mem.del_mem hq⟩
        ·rcases List.mem_cons.1 hq with hq | hq
         ·have e1 : q = key := congrArg Prod.fst hq
          subst e1
          rw [hbE]; exact .inr ⟨k, _, hmem, by simp [OBlk.Lies, D.hd], rfl⟩
         ·refine .inr ⟨q, o, Mem.del_mem hq, hl2, ?_⟩
          exact (hka.1 q (Mem.has_key hk _ (Mem.del_mem hq)).1).1
    ·cases heq
   ·cases heq
  ·cases heq
 ·trivial
end Sx
end
section
open Go
namespace Sx
def noMb : Mb := ⟨0, 0, 0, 0, false, 0, [], []⟩
def durMb (m : Mb) (x : Int) : Mb × List Int × Int :=
 if checkMb m ≠ 0 then (noMb, [], 3)
 else if m.waiting.contains x = false then (noMb, [], 7)
 else if m.frozen = true then ({ m with waiting := m.waiting.filter fun y => y != x, held := m.held ++ [x] }, [], 0)
 else ({ m with waiting := m.waiting.filter fun y => y != x }, [x], 0)
def relMb (m : Mb) (now : Int) : Mb × List Int := if checkMb m ≠ 0 ∨ m.frozen = false ∨ m.upto > now then (m, []) else thawMb m
noncomputable def spDur (x : MbD × Int) : SpecR := .data [x.1.Right] fun ds =>
 .tup [mbSV (ds 0) (ds 1) (durMb x.1.mb x.2).1, .dat ((ds 2).like (durMb x.1.mb x.2).2.1), .int .i64 (durMb x.1.mb x.2).2.2]
noncomputable def spRls (x : MbD × Int) : SpecR := .data [x.1.Right] fun ds => .tup [mbSV (ds 0) (ds 1) (relMb x.1.mb x.2).1, .dat ((ds 2).like (relMb x.1.mb x.2).2)]
noncomputable def ctD : Ctrs := (74, dCtr 3) :: (71, ctrOf ((rdD.two rdInt).sp spIdx21)) :: ctM
end Sx
end
section
namespace Sx
open Go RowKit
inductive CV where
 | int (n : Int)
 | bool (b : Bool)
 | dat (d : D)
def CV.sv : CV → SV
 | .int n => .int .i64 n
 | .bool b => .bool b
 | .dat d => .dat d
def CV.n : CV → Int
 | .int n => n
 | _ => 0
def CV.b : CV → Bool
 | .bool b => b
 | _ => false
def CV.d : CV → D
 | .dat d => d
 | _ => .slc none 0 []
def cvAt (l : List CV) (i : Nat) : CV := l.getD i (.int 0)

inductive CK where
 | int
 | bool
 | slc

def readCell : CK → SV → Option CV
 | .int, x => match rdInt.read x with | some n => some (.int n) | none => none
 | .bool, x => match rdBool.read x with | some n => some (.bool n) | none => none
 | .slc, x => match rdD.read x with | some n => some (.dat n) | none => none

def readCells : List CK → List SV → Option (List CV)
 | [], l => match l with | [] => some [] | _ => none
 | k :: ks, l => match l with
  | x :: r => match readCell k x, readCells ks r with
   | some c, some l => some (c :: l)
   | _, _ => none
  | [] => none

def ShapeC : List CK → List CV → Prop
 | [], l => l = []
 | .int :: ks, l => ∃ n r, l = .int n :: r ∧ ShapeC ks r
 | .bool :: ks, l => ∃ n r, l = .bool n :: r ∧ ShapeC ks r
 | .slc :: ks, l => ∃ n r, l = .dat n :: r ∧ ShapeC ks r

theorem readCell_right {k : CK} {H : HV} {E : Env} {x : SV} {c : CV} (h : readCell k x = some c) (hok : x.Ok H) : x.den E = c.sv.den E ∧ c.sv.Ok H := by
 cases k <;> simp only [readCell] at h <;> split at h <;> cases h <;> rename_i n hn
 ·exact rdInt.right H E x n hn hok
 ·exact rdBool.right H E x n hn hok
 ·exact rdD.right H E x n hn hok

theorem readCells_right {H : HV} {E : Env} : ∀ {ks : List CK} {l : List SV} {cs : List CV}, readCells ks l = some cs → SV.OkL H l → SV.denL E l = SV.denL E (cs.map CV.sv) ∧ SV.OkL H (cs.map CV.sv)
 | [], l, cs, h, hok => by
  simp only [readCells] at h
  split at h
  ·cases h; exact ⟨rfl, trivial⟩
  ·cases h
 | k :: ks, l, cs, h, hok => by
  simp only [readCells] at h
  split at h
  ·split at h
   ·rename_i h1 h2
    cases h
    obtain ⟨a1, a2⟩ := readCell_right (E := E) h1 hok.1
    obtain ⟨b1, b2⟩ := readCells_right (E := E) h2 hok.2
    exact ⟨by simp only [List.map_cons, SV.denL, a1, b1], a2, b2⟩
   ·cases h
  ·cases h

theorem readCells_shape : ∀ {ks : List CK} {l : List SV} {cs : List CV}, readCells ks l = some cs → ShapeC ks cs
 | [], l, cs, h => by
  simp only [readCells] at h
  split at h
  ·cases h; rfl
  ·cases h
 | k :: ks, l, cs, h => by
  simp only [readCells] at h
  split at h
  ·split at h
   ·rename_i h1 h2
    cases h
    have ih := readCells_shape h2
    cases k <;> simp only [readCell] at h1 <;> split at h1 <;> cases h1 <;> exact ⟨_, _, rfl, ih⟩
   ·cases h
  ·cases h
def rdCells (ks : List CK) : Rd1 { l : List CV // ShapeC ks l } where
 read x := match x with
  | .agg l => match h : readCells ks l with
   | some cs => some ⟨cs, readCells_shape h⟩
   | none => none
  | _ => none
 canon b := .agg (b.1.map CV.sv)
 right H E x b h hok := by
  split at h
  ·split at h
   ·rename_i h1
    cases h
    obtain ⟨a, b⟩ := readCells_right (E := E) h1 hok
    exact ⟨by simp only [SV.den, a], b⟩
   ·cases h
  ·cases h
inductive CL : Type 1 where
 | int (n : Int)
 | bool (b : Bool)
 | lst {α : Type} (c : Codec α) (l : List α)

noncomputable def svOf (ds : Nat → D) : Nat → List CL → List SV
 | _, [] => []
 | i, .int n :: r => .int .i64 n :: svOf ds i r
 | i, .bool n :: r => .bool n :: svOf ds i r
 | i, .lst _ l :: r => .dat ((ds i).like l) :: svOf ds (i + 1) r

def CellOk : SV → CL → Prop
 | v, .int n => v = .int .i64 n
 | v, .bool b => ∀ E, v.den E = (SV.bool b).den E
 | v, .lst (α := α) _ l => Stands α v l

inductive CellsOk : List SV → List CL → Prop
 | nil : CellsOk [] []
 | cons {v : SV} {c : CL} {vs : List SV} {cs : List CL} (h : CellOk v c) (t : CellsOk vs cs) : CellsOk (v :: vs) (c :: cs)

theorem cells_ds {svs : List SV} {cls : List CL} (h : CellsOk svs cls) : ∀ i, ∃ f : Nat → D, ∀ ds : Nat → D, (∀ j, i ≤ j → ds j = f j) →
  (∀ E E', SV.denL E svs = SV.denL E' (svOf ds i cls)) ∧ ∀ H, SV.OkL H svs → SV.OkL H (svOf ds i cls) := by
 induction h with
 | nil => exact fun i => ⟨fun _ => default, fun ds _ => ⟨fun _ _ => rfl, fun _ _ => trivial⟩⟩
 | @cons v c vs cs h t ih =>
  intro i
  cases c with
  | int n =>
   obtain ⟨f, hf⟩ := ih i
   refine ⟨f, fun ds hd => ?_⟩
   obtain ⟨h1, h2⟩ := hf ds hd
   have hv : v = .int .i64 n := h
   exact ⟨fun E E' => by simp only [svOf, SV.denL, hv, h1 E E']; rfl, fun H ho => ⟨trivial, h2 H ho.2⟩⟩
  | bool n =>
   obtain ⟨f, hf⟩ := ih i
   refine ⟨f, fun ds hd => ?_⟩
   obtain ⟨h1, h2⟩ := hf ds hd
   exact ⟨fun E E' => by simp only [svOf, SV.denL, h1 E E', h E]; rfl, fun H ho => ⟨trivial, h2 H ho.2⟩⟩
  | lst cd l =>
   obtain ⟨f, hf⟩ := ih (i + 1)
   obtain ⟨d, k1, k2, k3, k4⟩ := h
   refine ⟨fun j => if j = i then d else f j, fun ds hd => ?_⟩
   obtain ⟨h1, h2⟩ := hf ds (fun j hj => by rw [hd j (by omega)]; exact if_neg (by omega))
   have hdi : ds i = d := by rw [hd i (Nat.le_refl _)]; exact if_pos rfl
   refine ⟨fun E E' => ?_, fun H ho => ?_⟩
   ·simp only [svOf, SV.denL, h1 E E', hdi, D.like_self k2 k3, k1]; rfl
   ·simp only [svOf, SV.OkL, SV.Ok, hdi, D.like_self k2 k3] at ho ⊢
    exact ⟨⟨k4 _ ho.1, k2.slc⟩, h2 H ho.2⟩

theorem ret_cells {P : Program} {w : World} {H : HV} {svs : List SV} {cls : List CL} (h : CellsOk svs cls) : (Tree.ret (.agg svs)).holds P ⟨w, H⟩ (RetD w H fun ds => .agg (svOf ds 0 cls)) := by
 obtain ⟨f, hf⟩ := cells_ds h 0
 obtain ⟨h1, h2⟩ := hf f (fun _ _ => rfl)
 exact ret_D f (fun E E' => by simp only [SV.den, h1 E E']) (fun H' ho => h2 H' ho)
end Sx
end
section
open Go
namespace Sx
structure Wr where
 issued : Int
 acked : Int
 durable : Int
 times : Int
deriving DecidableEq

instance : Codec Wr where
 sz := 4
 ok r := ∃ a b c d, r = [.int .i64 a, .int .i64 b, .int .i64 c, .int .i64 d]
 dec r := match r with
  | [.int _ a, .int _ b, .int _ c, .int _ d] => ⟨a, b, c, d⟩
  | _ => ⟨0, 0, 0, 0⟩
 enc x := [.int .i64 x.issued, .int .i64 x.acked, .int .i64 x.durable, .int .i64 x.times]
 ok_enc x := ⟨_, _, _, _, rfl⟩
 dec_enc x := rfl
 len r := by rintro ⟨_, _, _, _, rfl⟩; rfl

theorem wr_cell {d : D} (h : d.Is Wr) {i : Nat} (hi : i < (d.to Wr).length) :
  d.HasCells i 0 [.int .i64, .int .i64, .int .i64, .int .i64] ∧ d.getInt i 0 = ((d.to Wr)[i]).issued ∧ d.getInt i 1 = ((d.to Wr)[i]).acked ∧ d.getInt i 2 = ((d.to Wr)[i]).durable ∧ d.getInt i 3 = ((d.to Wr)[i]).times := by
 obtain ⟨r, h1, ⟨a, b, c, d', rfl⟩, h3⟩ := h.row hi
 rw [h3]
 simp [D.HasCells, D.HasCell, D.getInt, D.cellAt, h1, Codec.dec]

structure Gr where
 c : Co
 node : Fin 3 → Mb
 flight : List Msg
 wr : Fin 3 → List Wr
 now : Int
 clock : Int
 right : Bool
 started : Int

def upd {α : Type} (f : Fin 3 → α) (i : Fin 3) (v : α) : Fin 3 → α := fun j => if j = i then v else f j
def ackW (clock : Int) (frozen : Bool) : List Int → List Wr → List Wr × Bool
 | [], w => (w, true)
 | x :: l, w => if x < 0 ∨ x ≥ w.length then (w, false) else
  let y := w.getD x.toNat ⟨0, 0, 0, 0⟩
  let t := IntKind.i64.wrap (y.times + 1)
  let r := ackW clock frozen l (w.set x.toNat { y with acked := clock, times := t })
  (r.1, !(decide (y.durable = 0) || decide (t > 1) || frozen) && r.2)

def grK : List CK := [.int, .int, .int, .int, .slc, .slc, .bool, .int, .int, .int, .int, .bool, .int, .slc, .slc, .int, .int, .int, .int, .bool, .int, .slc, .slc, .int, .int, .int, .int, .bool, .int, .slc, .slc, .slc, .slc, .slc, .slc, .int, .int, .bool, .int]
abbrev GrX := { l : List CV // ShapeC grK l }

noncomputable def spAck (x : GrX × Int × D) : SpecR := match x.1.1 with
 | CV.int cn :: CV.int cr :: CV.int cp :: CV.int cdl :: CV.dat cps :: CV.dat css :: CV.bool cv :: CV.int p1 :: CV.int p2 :: CV.int p3 :: CV.int p4 :: CV.bool pf :: CV.int p6 :: CV.dat pw :: CV.dat ph :: CV.int q1 :: CV.int q2 :: CV.int q3 :: CV.int q4 :: CV.bool qf :: CV.int q6 :: CV.dat qw :: CV.dat qh :: CV.int r1 :: CV.int r2 :: CV.int r3 :: CV.int r4 :: CV.bool rf :: CV.int r6 :: CV.dat rw :: CV.dat rh :: CV.dat fl :: CV.dat wa :: CV.dat wb :: CV.dat wc :: CV.int now :: CV.int clk :: CV.bool rt :: CV.int st :: [] => match x.2.1 with
  | .ofNat n => match n with
   | 0 => .data [wa.Is Wr ∧ wa.len ≤ 1048576 ∧ x.2.2.Is Int ∧ x.2.2.len ≤ 1048575 ∧ (ackW clk pf (x.2.2.to Int) (wa.to Wr)).2 = true] fun ds => .agg (List.map CV.sv (CV.int cn :: CV.int cr :: CV.int cp :: CV.int cdl :: CV.dat cps :: CV.dat css :: CV.bool cv :: CV.int p1 :: CV.int p2 :: CV.int p3 :: CV.int p4 :: CV.bool pf :: CV.int p6 :: CV.dat pw :: CV.dat ph :: CV.int q1 :: CV.int q2 :: CV.int q3 :: CV.int q4 :: CV.bool qf :: CV.int q6 :: CV.dat qw :: CV.dat qh :: CV.int r1 :: CV.int r2 :: CV.int r3 :: CV.int r4 :: CV.bool rf :: CV.int r6 :: CV.dat rw :: CV.dat rh :: CV.dat fl :: CV.dat ((ds 0).like (ackW clk pf (x.2.2.to Int) (wa.to Wr)).1) :: CV.dat wb :: CV.dat wc :: CV.int now :: CV.int clk :: CV.bool rt :: CV.int st :: []))
   | 1 => .data [wb.Is Wr ∧ wb.len ≤ 1048576 ∧ x.2.2.Is Int ∧ x.2.2.len ≤ 1048575 ∧ (ackW clk qf (x.2.2.to Int) (wb.to Wr)).2 = true] fun ds => .agg (List.map CV.sv (CV.int cn :: CV.int cr :: CV.int cp :: CV.int cdl :: CV.dat cps :: CV.dat css :: CV.bool cv :: CV.int p1 :: CV.int p2 :: CV.int p3 :: CV.int p4 :: CV.bool pf :: CV.int p6 :: CV.dat pw :: CV.dat ph :: CV.int q1 :: CV.int q2 :: CV.int q3 :: CV.int q4 :: CV.bool qf :: CV.int q6 :: CV.dat qw :: CV.dat qh :: CV.int r1 :: CV.int r2 :: CV.int r3 :: CV.int r4 :: CV.bool rf :: CV.int r6 :: CV.dat rw :: CV.dat rh :: CV.dat fl :: CV.dat wa :: CV.dat ((ds 0).like (ackW clk qf (x.2.2.to Int) (wb.to Wr)).1) :: CV.dat wc :: CV.int now :: CV.int clk :: CV.bool rt :: CV.int st :: []))
   | 2 => .data [wc.Is Wr ∧ wc.len ≤ 1048576 ∧ x.2.2.Is Int ∧ x.2.2.len ≤ 1048575 ∧ (ackW clk rf (x.2.2.to Int) (wc.to Wr)).2 = true] fun ds => .agg (List.map CV.sv (CV.int cn :: CV.int cr :: CV.int cp :: CV.int cdl :: CV.dat cps :: CV.dat css :: CV.bool cv :: CV.int p1 :: CV.int p2 :: CV.int p3 :: CV.int p4 :: CV.bool pf :: CV.int p6 :: CV.dat pw :: CV.dat ph :: CV.int q1 :: CV.int q2 :: CV.int q3 :: CV.int q4 :: CV.bool qf :: CV.int q6 :: CV.dat qw :: CV.dat qh :: CV.int r1 :: CV.int r2 :: CV.int r3 :: CV.int r4 :: CV.bool rf :: CV.int r6 :: CV.dat rw :: CV.dat rh :: CV.dat fl :: CV.dat wa :: CV.dat wb :: CV.dat ((ds 0).like (ackW clk rf (x.2.2.to Int) (wc.to Wr)).1) :: CV.int now :: CV.int clk :: CV.bool rt :: CV.int st :: []))
   | _ => .no
  | _ => .no
 | _ => .no

noncomputable def spSend (x : GrX × D) : SpecR := match x.1.1 with
 | CV.int cn :: CV.int cr :: CV.int cp :: CV.int cdl :: CV.dat cps :: CV.dat css :: CV.bool cv :: CV.int p1 :: CV.int p2 :: CV.int p3 :: CV.int p4 :: CV.bool pf :: CV.int p6 :: CV.dat pw :: CV.dat ph :: CV.int q1 :: CV.int q2 :: CV.int q3 :: CV.int q4 :: CV.bool qf :: CV.int q6 :: CV.dat qw :: CV.dat qh :: CV.int r1 :: CV.int r2 :: CV.int r3 :: CV.int r4 :: CV.bool rf :: CV.int r6 :: CV.dat rw :: CV.dat rh :: CV.dat fl :: CV.dat wa :: CV.dat wb :: CV.dat wc :: CV.int now :: CV.int clk :: CV.bool rt :: CV.int st :: [] => .data [fl.Is Msg ∧ fl.len ≤ 1048576 ∧ x.2.Is Msg ∧ x.2.len ≤ 1048576] fun ds => .agg (List.map CV.sv (CV.int cn :: CV.int cr :: CV.int cp :: CV.int cdl :: CV.dat cps :: CV.dat css :: CV.bool cv :: CV.int p1 :: CV.int p2 :: CV.int p3 :: CV.int p4 :: CV.bool pf :: CV.int p6 :: CV.dat pw :: CV.dat ph :: CV.int q1 :: CV.int q2 :: CV.int q3 :: CV.int q4 :: CV.bool qf :: CV.int q6 :: CV.dat qw :: CV.dat qh :: CV.int r1 :: CV.int r2 :: CV.int r3 :: CV.int r4 :: CV.bool rf :: CV.int r6 :: CV.dat rw :: CV.dat rh :: CV.dat ((ds 0).like (fl.to Msg ++ x.2.to Msg)) :: CV.dat wa :: CV.dat wb :: CV.dat wc :: CV.int now :: CV.int clk :: CV.bool rt :: CV.int st :: []))
 | _ => .no

/-! The group's functions. -/
def ackG (g : Gr) (i : Fin 3) (l : List Int) : Gr := { g with wr := upd g.wr i (ackW g.clock (g.node i).frozen l (g.wr i)).1, right := g.right && (ackW g.clock (g.node i).frozen l (g.wr i)).2 }
def sendG (g : Gr) (l : List Msg) : Gr := { g with flight := g.flight ++ l }
def obeyG (g : Gr) (m : Msg) (i : Fin 3) : Gr :=
 sendG (ackG { g with node := upd g.node i (obeyMb (g.node i) g.now 12 m).1 } i (obeyMb (g.node i) g.now 12 m).2.1) (obeyMb (g.node i) g.now 12 m).2.2
def recvG (g : Gr) (m : Msg) : Gr :=
 if m.to = 3 then sendG { g with c := (collectCo g.c g.now m).1 } (collectCo g.c g.now m).2
 else if m.to = 0 then obeyG g m 0
 else if m.to = 1 then obeyG g m 1
 else if m.to = 2 then obeyG g m 2
 else { g with right := false }
def noMsg : Msg := ⟨0, 0, 0, 0, 0, 0, [], []⟩
def flightG (g : Gr) (k w : Int) : Gr :=
 if g.flight.length = 0 then g else
  let i := (Int.tmod w g.flight.length).toNat
  let m := g.flight.getD i noMsg
  let g1 : Gr := if Int.tmod k 7 = 4 then g else { g with flight := g.flight.take i ++ g.flight.drop (i + 1) }
  if Int.tmod k 7 = 5 then g1 else recvG g1 m
def relG (g : Gr) (i : Fin 3) : Gr := ackG { g with node := upd g.node i (relMb (g.node i) g.now).1 } i (relMb (g.node i) g.now).2
def tickG (g : Gr) (n w : Int) : Gr :=
 let now := IntKind.i64.wrap (g.now + (1 + Int.tmod w 5))
 let g1 := sendG { g with now := now, c := (expireCo g.c now).1 } (expireCo g.c now).2
 if Int.tmod n 2 = 1 then relG (relG (relG g1 0) 1) 2 else g1
def noWr : Wr := ⟨0, 0, 0, 0⟩
def durG (g : Gr) (i : Fin 3) (w : Int) : Gr :=
 let q := (g.node i).waiting
 if q.length = 0 then g else
  let x := q.getD (Int.tmod w q.length).toNat 0
  if x < 0 ∨ x ≥ (g.wr i).length then { g with right := false } else
   let r := durMb (g.node i) x
   ackG { g with wr := upd g.wr i ((g.wr i).set x.toNat { (g.wr i).getD x.toNat noWr with durable := g.clock }), node := upd g.node i r.1, right := g.right && decide (r.2.2 = 0) } i r.2.1
def issueG (g : Gr) (i : Fin 3) : Gr :=
 { g with node := upd g.node i (issueMb (g.node i)).1, right := g.right && decide ((issueMb (g.node i)).2 = (g.wr i).length), wr := upd g.wr i (g.wr i ++ [⟨g.clock, 0, 0, 0⟩]) }
def roundG (g : Gr) : Gr :=
 let r := startCo g.c g.now 20
 if r.2.2 ≠ 0 then { g with right := g.right && decide (r.2.2 = 26) } else sendG { g with c := r.1, started := IntKind.i64.wrap (g.started + 1) } r.2.1
def stepG (g : Gr) (k : Int) (i : Fin 3) (n w : Int) : Gr :=
 let g := { g with clock := IntKind.i64.wrap (g.clock + 1) }
 if Int.tmod k 7 = 0 then issueG g i
 else if Int.tmod k 7 = 1 then durG g i w
 else if Int.tmod k 7 = 2 then roundG g
 else if Int.tmod k 7 = 6 then tickG g n w
 else flightG g k w

/-! A group from its cells, and the cells of a group. -/
noncomputable def grOf (l : List CV) : Gr := match l with
 | CV.int cn :: CV.int cr :: CV.int cp :: CV.int cdl :: CV.dat cps :: CV.dat css :: CV.bool cv :: CV.int p1 :: CV.int p2 :: CV.int p3 :: CV.int p4 :: CV.bool pf :: CV.int p6 :: CV.dat pw :: CV.dat ph :: CV.int q1 :: CV.int q2 :: CV.int q3 :: CV.int q4 :: CV.bool qf :: CV.int q6 :: CV.dat qw :: CV.dat qh :: CV.int r1 :: CV.int r2 :: CV.int r3 :: CV.int r4 :: CV.bool rf :: CV.int r6 :: CV.dat rw :: CV.dat rh :: CV.dat fl :: CV.dat wa :: CV.dat wb :: CV.dat wc :: CV.int now :: CV.int clk :: CV.bool rt :: CV.int st :: [] => ⟨⟨cn, cr, cp, cdl, cps.to Int, css.to Bool, cv⟩, fun i => match i with
   | 0 => ⟨p1, p2, p3, p4, pf, p6, pw.to Int, ph.to Int⟩
   | 1 => ⟨q1, q2, q3, q4, qf, q6, qw.to Int, qh.to Int⟩
   | 2 => ⟨r1, r2, r3, r4, rf, r6, rw.to Int, rh.to Int⟩,
   fl.to Msg, fun i => match i with
   | 0 => wa.to Wr
   | 1 => wb.to Wr
   | 2 => wc.to Wr, now, clk, rt, st⟩
 | _ => ⟨zCo, fun _ => noMb, [], fun _ => [], 0, 0, false, 0⟩
def GrRight (l : List CV) : Prop := match l with
 | CV.int cn :: CV.int cr :: CV.int cp :: CV.int cdl :: CV.dat cps :: CV.dat css :: CV.bool cv :: CV.int p1 :: CV.int p2 :: CV.int p3 :: CV.int p4 :: CV.bool pf :: CV.int p6 :: CV.dat pw :: CV.dat ph :: CV.int q1 :: CV.int q2 :: CV.int q3 :: CV.int q4 :: CV.bool qf :: CV.int q6 :: CV.dat qw :: CV.dat qh :: CV.int r1 :: CV.int r2 :: CV.int r3 :: CV.int r4 :: CV.bool rf :: CV.int r6 :: CV.dat rw :: CV.dat rh :: CV.dat fl :: CV.dat wa :: CV.dat wb :: CV.dat wc :: CV.int now :: CV.int clk :: CV.bool rt :: CV.int st :: [] => (cps.Is Int ∧ css.Is Bool) ∧ MbD.Right ⟨p1, p2, p3, p4, pf, p6, pw, ph⟩ ∧ MbD.Right ⟨q1, q2, q3, q4, qf, q6, qw, qh⟩ ∧ MbD.Right ⟨r1, r2, r3, r4, rf, r6, rw, rh⟩ ∧
   (fl.Is Msg ∧ fl.len ≤ 1000000) ∧ (wa.Is Wr ∧ wa.len ≤ 1000000) ∧ (wb.Is Wr ∧ wb.len ≤ 1000000) ∧ (wc.Is Wr ∧ wc.len ≤ 1000000)
 | _ => False

def mbCl (m : Mb) : List CL := [.int m.round, .int m.position, .int m.thawed, .int m.issued, .bool m.frozen, .int m.upto, .lst inferInstance m.waiting, .lst inferInstance m.held]
noncomputable def Gr.cls (g : Gr) : List CL :=
 .int g.c.nodes :: .int g.c.round :: .int g.c.phase :: .int g.c.deadline :: .lst inferInstance g.c.positions :: .lst inferInstance g.c.seen :: .bool g.c.valid ::
 (mbCl (g.node 0) ++ (mbCl (g.node 1) ++ (mbCl (g.node 2) ++ (.lst inferInstance g.flight :: .lst inferInstance (g.wr 0) :: .lst inferInstance (g.wr 1) :: .lst inferInstance (g.wr 2) :: .int g.now :: .int g.clock :: .bool g.right :: .int g.started :: []))))
abbrev cl9 (cn cr cp cdl : Int) (cps css : D) (cv : Bool) (p1 p2 p3 p4 : Int) (pf : Bool) (p6 : Int) (pw ph : D) (q1 q2 q3 q4 : Int) (qf : Bool) (q6 : Int) (qw qh : D) (r1 r2 r3 r4 : Int) (rf : Bool) (r6 : Int) (rw rh : D) (fl wa wb wc : D) (now clk : Int) (rt : Bool) (st : Int) : List SV := [.int .i64 cn, .int .i64 cr, .int .i64 cp, .int .i64 cdl, .dat cps, .dat css, .bool cv, .int .i64 p1, .int .i64 p2, .int .i64 p3, .int .i64 p4, .bool pf, .int .i64 p6, .dat pw, .dat ph, .int .i64 q1, .int .i64 q2, .int .i64 q3, .int .i64 q4, .bool qf, .int .i64 q6, .dat qw, .dat qh, .int .i64 r1, .int .i64 r2, .int .i64 r3, .int .i64 r4, .bool rf, .int .i64 r6, .dat rw, .dat rh, .dat fl, .dat wa, .dat wb, .dat wc, .int .i64 now, .int .i64 clk, .bool rt, .int .i64 st]
abbrev cv9 (cn cr cp cdl : Int) (cps css : D) (cv : Bool) (p1 p2 p3 p4 : Int) (pf : Bool) (p6 : Int) (pw ph : D) (q1 q2 q3 q4 : Int) (qf : Bool) (q6 : Int) (qw qh : D) (r1 r2 r3 r4 : Int) (rf : Bool) (r6 : Int) (rw rh : D) (fl wa wb wc : D) (now clk : Int) (rt : Bool) (st : Int) : List CV := (CV.int cn :: CV.int cr :: CV.int cp :: CV.int cdl :: CV.dat cps :: CV.dat css :: CV.bool cv :: CV.int p1 :: CV.int p2 :: CV.int p3 :: CV.int p4 :: CV.bool pf :: CV.int p6 :: CV.dat pw :: CV.dat ph :: CV.int q1 :: CV.int q2 :: CV.int q3 :: CV.int q4 :: CV.bool qf :: CV.int q6 :: CV.dat qw :: CV.dat qh :: CV.int r1 :: CV.int r2 :: CV.int r3 :: CV.int r4 :: CV.bool rf :: CV.int r6 :: CV.dat rw :: CV.dat rh :: CV.dat fl :: CV.dat wa :: CV.dat wb :: CV.dat wc :: CV.int now :: CV.int clk :: CV.bool rt :: CV.int st :: [])
end Sx
end
section
open Go Go.Proofs Go.Shelf Sx
namespace Go.Proofs.Ytoechplbhbalaaa
def ren74 : Ren := ⟨fun | 23 => 74 | n => n, fun n => n, fun n => n⟩
theorem lays74 : Lays2.n23 Try.prog ren74 where
 mixed := by kernel_rfl
 f23 := Try.func74.trans (congrArg some (by kernel_rfl))
 t0 := Try.underlying0
 a0 := Try.isAgg0
 z0 := Try.sizeOf0
 v0 := Try.zeroValue0
 t3 := Try.underlying3
 a3 := Try.isAgg3
 z3 := Try.sizeOf3
 v3 := Try.zeroValue3
 t4 := Try.underlying4
 a4 := Try.isAgg4
 z4 := Try.sizeOf4
 v4 := Try.zeroValue4
 t22 := Try.underlying22
 a22 := Try.isAgg22
 z22 := Try.sizeOf22
 v22 := Try.zeroValue22
 i3 := by kernel_rfl

theorem del74 : Deletes Try.prog 74 := fun blk cap i j zs w hH hc hm hij hj => Any.slices_Delete_int lays74 blk 0 cap i j zs w hH hc hm hij hj
theorem ctr74 : CtrOk Try.prog 74 (dCtr 3) := dCtr_ok (bodied_spec (by kernel_rfl)) del74
end Go.Proofs.Ytoechplbhbalaaa
end
section
open Go Go.Proofs Sx
namespace Go.Proofs.Ytoechplbhbalaaa
set_option maxRecDepth 100000
set_option maxHeartbeats 0
noncomputable def intsL (a b : D) (j : Int) : Conf := Conf.mk (SFrm.mk 23 none none [Item.inLoop (cAt Try.prog 23 [1, 1, 0, 1, 0, 0]), Item.inBlock 0, Item.code (cAt Try.prog 23 [1, 1, 1])]
 (mkJ 0 [(0, .dat a), (1, .dat b), (5, .int .i64 j)] 0 26)) [] []
noncomputable def idxL (d : D) (j : Int) : Conf := Conf.mk (SFrm.mk 80 none none [Item.inLoop (cAt Try.prog 80 [1, 0, 1, 0, 0]), Item.inBlock 0, Item.code (cAt Try.prog 80 [1, 1])]
 (mkJ 0 [(0, .dat d), (1, .fn 53 [] []), (7, .int .i64 d.len), (8, .int .i64 j)] 0 19)) [] []
noncomputable def cc2L (nodes round phase deadline : Int) (d s : D) (v : SV) (j : Int) : Conf := Conf.mk (SFrm.mk 18 none none [Item.inLoop (cAt Try.prog 18 [1, 1, 1, 0, 1, 0, 0]), Item.inBlock 0, Item.code (cAt Try.prog 18 [1, 1, 1, 1])]
 (mkJ 0 [(1, .ptr 0 0), (3, .int .i64 j)] 0 85)) [] [(0, .cells 25 [.int .i64 nodes, .int .i64 round, .int .i64 phase, .int .i64 deadline, .dat d, .dat s, v])]
section
variable (n j : Int) (v : SV) (a b d s : D) (nodes round phase deadline now patience : Int) (valid : Bool)
theorem new1_in : exec Try.prog [] 200 (entry Try.prog 19 [.int .i64 n]) =
 Tree.br (decide (n < 1))
 (.ret
 (SV.tup
 [.agg
 [.int .i64 0, .int .i64 0, .int .i64 0, .int .i64 0, .nils, .nils,
 .lb false],
 .int .i64 2]))
 (.br (decide (n > 8))
 (.ret
 (SV.tup
 [.agg
 [.int .i64 0, .int .i64 0, .int .i64 0, .int .i64 0, .nils, .nils,
 .lb false],
 .int .i64 2]))
 (.all fun hs =>
 .need (0 ≤ n ∧ n = n ∧ (↑8 : Int) * n ≤ 281474976710656 ∧ n ≤ 9223372036854775807)
 (.need (0 ≤ n ∧ n = n ∧ (↑1 : Int) * n ≤ 281474976710656 ∧ n ≤ 9223372036854775807)
 (.ret
 (SV.tup
 [.agg
 [.int .i64 n, .int .i64 0, .int .i64 0, .int .i64 0,
 .dat (D.slc (D.hd (hs 2 0)) 1 (List.replicate (Int.toNat n) [D.int .i64 0])),
 .dat (D.slc (D.hd (hs 4 0)) 1 (List.replicate (Int.toNat n) [D.bool false])), .lb false],
 .int .i64 0]))))) := by kernel_rfl

theorem new2_in : exec Try.prog [] 200 (entry Try.prog 20 [.int .i64 n]) =
 Tree.br (decide (n < 1))
 (.ret
 (SV.tup
 [.agg
 [.int .i64 0, .int .i64 0, .int .i64 0, .int .i64 0, .nils, .nils,
 .lb false],
 .int .i64 2]))
 (.br (decide (n > 8))
 (.ret
 (SV.tup
 [.agg
 [.int .i64 0, .int .i64 0, .int .i64 0, .int .i64 0, .nils, .nils,
 .lb false],
 .int .i64 2]))
 (.all fun hs =>
 .need (0 ≤ n ∧ n = n ∧ (↑8 : Int) * n ≤ 281474976710656 ∧ n ≤ 9223372036854775807)
 (.need (0 ≤ n ∧ n = n ∧ (↑1 : Int) * n ≤ 281474976710656 ∧ n ≤ 9223372036854775807)
 (.ret
 (SV.tup
 [.agg
 [.int .i64 n, .int .i64 0, .int .i64 0, .int .i64 0,
 .dat (D.slc (D.hd (hs 2 0)) 1 (List.replicate (Int.toNat n) [D.int .i64 0])),
 .dat (D.slc (D.hd (hs 4 0)) 1 (List.replicate (Int.toNat n) [D.bool false])), .lb false],
 .int .i64 0]))))) := by kernel_rfl

theorem ints_in : exec Try.prog [] 200 (entry Try.prog 23 [.dat a, .dat b]) =
 Tree.br ((↑(D.len a) : Int) != (↑(D.len b) : Int)) (.ret (.lb false))
 (.leaf
 (Conf.mk
 (SFrm.mk 23 none none
 [Item.inLoop (cAt Try.prog 23 [1, 1, 0, 1, 0, 0]), Item.inBlock 0, Item.code (cAt Try.prog 23 [1, 1, 1])]
 (mkJ 0 [(0, .dat a), (1, .dat b), (5, .int .i64 0)] 0 26))
 [] [])) := by kernel_rfl

theorem idx_in : exec Try.prog [] 200 (entry Try.prog 80 [.dat d, .fn 53 [] []]) =
 Tree.leaf
 (Conf.mk
 (SFrm.mk 80 none none
 [Item.inLoop (cAt Try.prog 80 [1, 0, 1, 0, 0]), Item.inBlock 0, Item.code (cAt Try.prog 80 [1, 1])]
 (mkJ 0 [(0, .dat d), (1, SV.fn 53 [] []), (7, .int .i64 (↑(D.len d) : Int)), (8, .int .i64 0)]
 0 19))
 [] []) := by kernel_rfl

theorem any_in : exec Try.prog [(80, ctrOf ((rdD.two (rdFn 53)).sp spIdxBad))] 200 (entry Try.prog 52 [.dat d, .fn 53 [] []]) =
 Tree.need (D.Is Int d ∧ D.len d ≤ 1048576) (.ret (.bool (decide (idxP (D.to Int d) badPos ≥ 0)))) := by kernel_rfl

theorem cc1_in : 
 let z2 : Tree := (.need (D.Is Int d ∧ D.len d ≤ 1048576) (.br (List.any (D.to Int d) badPos) (.ret (.int .i64 3)) (.ret (.int .i64 0))))
 let z1 : Tree := (.br ((↑(D.len d) : Int) != nodes) (.br ((↑(D.len d) : Int) != nodes) (.ret (.int .i64 3)) z2) (.br ((↑(D.len s) : Int) != nodes) (.br ((↑(D.len s) : Int) != nodes) (.ret (.int .i64 3)) z2) (.br valid (.br (phase != 0) (.ret (.int .i64 3)) z2) z2)))
 exec Try.prog [(52, ctrOf ((rdD.two (rdFn 53)).sp spAnyBad))] 300 (entry Try.prog 17 [.agg [.int .i64 nodes, .int .i64 round, .int .i64 phase, .int .i64 deadline, .dat d, .dat s, .bool valid]]) =
 Tree.br (decide (nodes < 1)) (.br (decide (nodes < 1)) (.ret (.int .i64 3)) z1) (.br (decide (nodes > 8)) (.br (decide (nodes > 8)) (.ret (.int .i64 3)) z1) (.br (decide (round ≥ 0)) (.br (!decide (round ≤ 1073741824))
 (.br (!decide (round ≤ 1073741824)) (.ret (.int .i64 3)) z1) (.br (decide (deadline ≥ 0)) (.br (!decide (deadline ≤ 1073741824)) (.br (!decide (deadline ≤ 1073741824)) (.ret (.int .i64 3)) z1) (.br (decide
 (phase < 0)) (.br (decide (phase < 0)) (.ret (.int .i64 3)) z1) (.br (decide (phase > 2)) (.ret (.int .i64 3)) z1))) (.ret (.int .i64 3)))) (.ret (.int .i64 3)))) := by
 intros; kernel_rfl

theorem cc2_in : exec Try.prog [] 300 (entry Try.prog 18 [.agg [.int .i64 nodes, .int .i64 round, .int .i64 phase, .int .i64 deadline, .dat d, .dat s, .bool valid]]) =
 Tree.br (decide (nodes < 1)) (.ret (.int .i64 3))
 (.br (decide (nodes > 8)) (.ret (.int .i64 3))
 (.br (decide (round < 0)) (.ret (.int .i64 3))
 (.br (decide (round > 1073741824)) (.ret (.int .i64 3))
 (.br (decide (deadline < 0)) (.ret (.int .i64 3))
 (.br (decide (deadline > 1073741824)) (.ret (.int .i64 3))
 (.br (decide (phase < 0)) (.ret (.int .i64 3))
 (.br (decide (phase > 2)) (.ret (.int .i64 3))
 (.br ((↑(D.len d) : Int) != nodes) (.ret (.int .i64 3))
 (.br ((↑(D.len s) : Int) != nodes) (.ret (.int .i64 3))
 (.br valid
 (.br (phase != 0) (.ret (.int .i64 3))
 (.leaf
 (Conf.mk
 (SFrm.mk 18 none none
 [Item.inLoop (cAt Try.prog 18 [1, 1, 1, 0, 1, 0, 0]), Item.inBlock 0,
 Item.code (cAt Try.prog 18 [1, 1, 1, 1])]
 (mkJ 0 [(1, .ptr 0 0), (3, .int .i64 0)] 0 85))
 []
 [(0,
 OBlk.cells 25
 [.int .i64 nodes, .int .i64 round, .int .i64 phase,
 .int .i64 deadline, .dat d, .dat s, .bool valid])])))
 (.leaf
 (Conf.mk
 (SFrm.mk 18 none none
 [Item.inLoop (cAt Try.prog 18 [1, 1, 1, 0, 1, 0, 0]), Item.inBlock 0,
 Item.code (cAt Try.prog 18 [1, 1, 1, 1])]
 (mkJ 0 [(1, .ptr 0 0), (3, .int .i64 0)] 0 85))
 []
 [(0,
 OBlk.cells 25
 [.int .i64 nodes, .int .i64 round, .int .i64 phase,
 .int .i64 deadline, .dat d, .dat s, .bool valid])])))))))))))) := by kernel_rfl

theorem ints_go : exec Try.prog [] 200 (unroll (intsL a b j)) =
 Tree.br (decide (j < (↑(D.len a) : Int)))
 (.all fun hs =>
 .need (0 ≤ j ∧ j < (↑(D.len a) : Int) ∧ D.sz a = 1)
 (.need (D.HasCell a (Int.toNat j) 0 (FT.int .i64))
 (.need (0 ≤ j ∧ j < (↑(D.len b) : Int) ∧ D.sz b = 1)
 (.need (D.HasCell b (Int.toNat j) 0 (FT.int .i64))
 (.br (D.getInt a (Int.toNat j) 0 != D.getInt b (Int.toNat j) 0) (.ret (.lb false))
 (.leaf
 (Conf.mk
 (SFrm.mk 23 none none
 [Item.inLoop (cAt Try.prog 23 [1, 1, 0, 1, 0, 0]), Item.inBlock 0,
 Item.code (cAt Try.prog 23 [1, 1, 1])]
 (mkJ 0 [(0, .dat a), (1, .dat b), (5, .int .i64 (IntKind.wrap .i64 (j + 1)))] 0
 26))
 [] [])))))))
 (.ret (.lb true)) := by kernel_rfl

theorem idx_go : exec Try.prog [] 200 (unroll (idxL d j)) =
 Tree.br (decide (j < (↑(D.len d) : Int)))
 (.need (0 ≤ j ∧ j < (↑(D.len d) : Int) ∧ D.sz d = 1)
 (.need (D.HasCell d (Int.toNat j) 0 (FT.int .i64))
 (.br (decide (D.getInt d (Int.toNat j) 0 < 0)) (.ret (.int .i64 j))
 (.br (decide (D.getInt d (Int.toNat j) 0 > 4096)) (.ret (.int .i64 j))
 (.leaf
 (Conf.mk
 (SFrm.mk 80 none none
 [Item.inLoop (cAt Try.prog 80 [1, 0, 1, 0, 0]), Item.inBlock 0, Item.code (cAt Try.prog 80 [1, 1])]
 (mkJ 0
 [(0, .dat d), (1, SV.fn 53 [] []), (7, .int .i64 (↑(D.len d) : Int)),
 (8, .int .i64 (IntKind.wrap .i64 (j + 1)))]
 0 19))
 [] []))))))
 (.ret (.int .i64 (Int.neg 1))) := by kernel_rfl

theorem cc2_go : exec Try.prog [] 200 (unroll (cc2L nodes round phase deadline d s (.bool valid) j)) =
 Tree.br (decide (j < nodes))
 (.need (0 ≤ j ∧ j < (↑(D.len d) : Int) ∧ D.sz d = 1)
 (.need (D.HasCell d (Int.toNat j) 0 (FT.int .i64))
 (.br (decide (D.getInt d (Int.toNat j) 0 < 0)) (.ret (.int .i64 3))
 (.need (0 ≤ j ∧ j < (↑(D.len d) : Int) ∧ D.sz d = 1)
 (.need (D.HasCell d (Int.toNat j) 0 (FT.int .i64))
 (.br (decide (D.getInt d (Int.toNat j) 0 > 4096)) (.ret (.int .i64 3))
 (.leaf
 (Conf.mk
 (SFrm.mk 18 none none
 [Item.inLoop (cAt Try.prog 18 [1, 1, 1, 0, 1, 0, 0]), Item.inBlock 0,
 Item.code (cAt Try.prog 18 [1, 1, 1, 1])]
 (mkJ 0 [(1, .ptr 0 0), (3, .int .i64 (IntKind.wrap .i64 (j + 1)))] 0 85))
 []
 [(0,
 OBlk.cells 25
 [.int .i64 nodes, .int .i64 round, .int .i64 phase,
 .int .i64 deadline, .dat d, .dat s, .bool valid])]))))))))
 (.ret (.int .i64 0)) := by kernel_rfl


end
end Go.Proofs.Ytoechplbhbalaaa
end
section
open Go Go.Proofs Sx
namespace Sx

section
variable {P : Program} {w : World} {H : HV}
theorem lb_den {b : Bool} : ∀ E, (SV.lb b).den E = (SV.bool b).den E := fun _ => by simp [SV.den]
theorem ret_coE {n r p dl k : Int} {X Y V : SV} {ps : List Int} {ss : List Bool} {v : Bool} {res : Co × Int} (hx : Stands Int X ps) (hy : Stands Bool Y ss) (hv : ∀ E, V.den E = (SV.bool v).den E) (hr : res = (⟨n, r, p, dl, ps, ss, v⟩, k)) :
  (Tree.ret (.tup [.agg [.int .i64 n, .int .i64 r, .int .i64 p, .int .i64 dl, X, Y, V], .int .i64 k])).holds P ⟨w, H⟩ (RetD w H fun ds => .tup [coSV (ds 0) (ds 1) res.1, .int .i64 res.2]) := by
 subst hr
 obtain ⟨d, h1, h2, h3, h4⟩ := hx
 obtain ⟨d', h1', h2', h3', h4'⟩ := hy
 refine ret_D (fun i => match i with | 0 => d | _ => d') (fun E E' => ?_) (fun H' ho => ?_)
 ·have : V.den E = (SV.bool v).den E' := by rw [hv]; rfl
  simp only [SV.den, SV.denL, coSV, D.like_self h2 h3, D.like_self h2' h3', h1, h1', this]
 ·simp only [SV.Ok, SV.OkL, coSV, D.like_self h2 h3, D.like_self h2' h3'] at ho ⊢
  exact ⟨⟨trivial, trivial, trivial, trivial, ⟨h4 _ ho.1.2.2.2.2.1, h2.slc⟩, ⟨h4' _ ho.1.2.2.2.2.2.1, h2'.slc⟩, trivial, trivial⟩, trivial, trivial⟩
end

theorem idxP_any (xs : List Int) (p : Int → Bool) : decide (idxP xs p ≥ 0) = xs.any p := by
 rw [Bool.eq_iff_iff]
 simp only [idxP, ge_iff_le, decide_eq_true_eq]
 cases hf : xs.findIdx? p with
 | none =>
  rw [List.findIdx?_eq_none_iff] at hf
  simp only
  constructor
  ·intro h; omega
  ·intro h
   obtain ⟨x, h1, h2⟩ := List.any_eq_true.1 h
   rw [hf x h1] at h2; cases h2
 | some i =>
  rw [List.findIdx?_eq_some_iff_getElem] at hf
  obtain ⟨hi, h1, _⟩ := hf
  have : xs.any p = true := List.any_eq_true.2 ⟨_, List.getElem_mem hi, h1⟩
  simp only [this, iff_true]
  omega


theorem zeros_rows {n : Int} (h : Hd) : Stands Int (.dat (.slc h 1 (List.replicate (Int.toNat n) [D.int IntKind.i64 0]))) (List.replicate n.toNat 0) :=
 stands_rows rfl ⟨fun r hr => by rw [List.eq_of_mem_replicate hr]; exact ok_int 0, by simp [List.map_replicate]⟩
theorem falses_rows {n : Int} (h : Hd) : Stands Bool (.dat (.slc h 1 (List.replicate (Int.toNat n) [D.bool false]))) (List.replicate n.toNat false) :=
 stands_rows rfl ⟨fun r hr => by rw [List.eq_of_mem_replicate hr]; exact ok_bool false, by simp [List.map_replicate]⟩
end Sx

namespace Go.Proofs.Ytoechplbhbalaaa

theorem lawIdx : Law Try.prog 80 ((rdD.two (rdFn 53)).sp spIdxBad) := by
 refine law_in _ (by kernel_rfl) fun H w ⟨d, u⟩ hok hp => ?_
 obtain ⟨hd, hlen⟩ := hp _ (List.mem_singleton.2 rfl)
 simp only at hd hlen
 rw [D.Is.length (α := Int)] at hlen
 apply exec_sound (noCtr _) 200
 rw [show (rdD.two (rdFn 53)).canon (d, u) = [.dat d, .fn 53 [] []] from rfl, idx_in]
 refine runs_loop (fun j : Nat => idxL d j) (fun j => j ≤ (d.to Int).length ∧ ((d.to Int).take j).findIdx? badPos = none) (fun j => (d.to Int).length - j) (fun _ => rfl) ?_ 0 ⟨Nat.zero_le _, by simp⟩
 intro j ⟨hj, hpre⟩ ih
 apply exec_sound (noCtr _) 200
 rw [idx_go]
 have hl := D.Is.length (α := Int) d
 have found : ∀ hc : j < (d.to Int).length, badPos (d.to Int)[j] = true → (d.to Int).findIdx? badPos = some j := by
  intro hc hb
  rw [List.findIdx?_eq_some_iff_getElem]
  refine ⟨hc, hb, fun i hi => ?_⟩
  rw [List.findIdx?_eq_none_iff] at hpre
  have := hpre (d.to Int)[i] (List.mem_take_iff_getElem.2 ⟨i, by omega, rfl⟩)
  simp [this]
 refine ⟨fun hc => ?_, fun hc => ?_⟩
 ·simp [hl] at hc
  obtain ⟨c1, c2, c3⟩ := int_at hd hc
  rw [c3]
  refine ⟨c1, c2, fun hc2 => ret_int ?_, fun hc2 => ⟨fun hc3 => ret_int ?_, fun hc3 => ?_⟩⟩
  ·simp only [idxP, found hc (by simp [badPos, hc2])]
  ·simp only [idxP, found hc (by simp [badPos, hc3])]
  ·have := ih (j + 1) ⟨hc, by rw [List.take_succ_eq_append_getElem hc, List.findIdx?_append, hpre]; simp at hc2 hc3; simp [badPos]; omega⟩ (by omega)
   rw [← wrap_succ hc hlen] at this
   exact this
 ·simp [hl] at hc
  have : j = (d.to Int).length := by omega
  subst this
  rw [List.take_length] at hpre
  exact ret_int (by simp only [idxP, hpre]; rfl)

theorem ctIdx : Ctrs.Ok Try.prog [(80, ctrOf ((rdD.two (rdFn 53)).sp spIdxBad))] := by
 intro x hx
 rw [List.mem_singleton.1 hx]
 exact ctrOf_ok lawIdx

theorem lawAny : Law Try.prog 52 ((rdD.two (rdFn 53)).sp spAnyBad) := by
 refine law_in _ (by kernel_rfl) fun H w ⟨d, u⟩ hok hp => ?_
 apply exec_sound ctIdx 200
 rw [show (rdD.two (rdFn 53)).canon (d, u) = [.dat d, .fn 53 [] []] from rfl, any_in]
 exact ⟨hp _ (List.mem_singleton.2 rfl), ret_bool (idxP_any _ _)⟩

theorem ctAny : Ctrs.Ok Try.prog [(52, ctrOf ((rdD.two (rdFn 53)).sp spAnyBad))] := by
 intro x hx
 rw [List.mem_singleton.1 hx]
 exact ctrOf_ok lawAny

theorem lawNew (f : FuncId) (hf : f = 19 ∨ f = 20) : Law Try.prog f (rdInt.one.sp spNewCo) := by
 rcases hf with rfl | rfl
 all_goals
  refine law_in _ (by kernel_rfl) fun H w n hok hp => ?_
  clear hp hok
  apply exec_sound (noCtr _) 200
  rw [show rdInt.one.canon n = [.int .i64 n] from rfl]
  first | rw [new1_in] | rw [new2_in]
  refine ⟨fun hc => ?_, fun hc => ⟨fun hc2 => ?_, fun hc2 hs => ?_⟩⟩
  ·exact ret_coE stands_nils stands_nils lb_den (by simp at hc; simp [newCo, hc])
  ·exact ret_coE stands_nils stands_nils lb_den (by simp at hc2; simp [newCo, hc2])
  ·simp only [decide_eq_false_iff_not] at hc hc2
   refine ⟨by simp; omega, by simp; omega, ?_⟩
   exact ret_coE (zeros_rows _) (falses_rows _) lb_den (by rw [newCo, if_neg (by omega)])

theorem lawSameInts : Law Try.prog 23 ((rdD.two rdD).sp spSameInts) := by
 refine law_in _ (by kernel_rfl) fun H w ⟨a, b⟩ hok hp => ?_
 obtain ⟨ha, hb, hlen⟩ := hp _ (List.mem_singleton.2 rfl)
 simp only at ha hb hlen
 have hla := D.Is.length (α := Int) a
 have hlb := D.Is.length (α := Int) b
 rw [hla] at hlen
 apply exec_sound (noCtr _) 200
 rw [show (rdD.two rdD).canon (a, b) = [.dat a, .dat b] from rfl, ints_in]
 refine ⟨fun hc => ret_lb ?_, fun hc => ?_⟩
 ·simp [hla, hlb] at hc
  symm
  simp only [decide_eq_false_iff_not]
  intro he; apply hc; rw [he]
 simp [hla, hlb] at hc
 have hc' : (a.to Int).length = (b.to Int).length := by omega
 refine runs_loop (fun j : Nat => intsL a b j) (fun j => j ≤ (a.to Int).length ∧ (a.to Int).take j = (b.to Int).take j) (fun j => (a.to Int).length - j) (fun _ => rfl) ?_ 0 ⟨Nat.zero_le _, by simp⟩
 intro j ⟨hj, hpre⟩ ih
 apply exec_sound (noCtr _) 200
 rw [ints_go]
 refine ⟨fun hx => ?_, fun hx => ?_⟩
 ·simp [hla] at hx
  have hy : j < (b.to Int).length := by omega
  obtain ⟨c1, c2, c3⟩ := int_at ha hx
  obtain ⟨e1, e2, e3⟩ := int_at hb hy
  rw [c3, e3]
  refine fun hs => ⟨c1, c2, e1, e2, fun hn => ret_lb ?_, fun hn => ?_⟩
  ·simp only [bne_iff_ne, ne_eq] at hn
   symm
   simp only [decide_eq_false_iff_not]
   intro he
   apply hn
   simp only [he]
  ·simp only [bne_eq_false_iff_eq] at hn
   have := ih (j + 1) ⟨hx, by rw [List.take_succ_eq_append_getElem hx, List.take_succ_eq_append_getElem hy, hpre, hn]⟩ (by omega)
   rw [← wrap_succ hx hlen] at this
   exact this
 ·simp [hla] at hx
  have : j = (a.to Int).length := by omega
  subst this
  rw [List.take_length] at hpre
  refine ret_lb ?_
  symm
  simp only [decide_eq_true_eq]
  rw [hpre, hc', List.take_length]

theorem cc2_loop {H : HV} {d s : D} (hd : d.Is Int) (nodes round phase deadline : Int) (valid : Bool) (w : World) (h1 : (d.to Int).length = nodes) (h8 : nodes ≤ 8) (k : Int)
  (hk : k = if (d.to Int).any badPos = true then 3 else 0) :
  Runs Try.prog ⟨w, H⟩ (cc2L nodes round phase deadline d s (.bool valid) 0) (RetS w H (.int .i64 k)) := by
 have hl := D.Is.length (α := Int) d
 refine runs_loop (fun j : Nat => cc2L nodes round phase deadline d s (.bool valid) j) (fun j => j ≤ (d.to Int).length ∧ ((d.to Int).take j).any badPos = false) (fun j => (d.to Int).length - j) (fun _ => rfl) ?_ 0 ⟨Nat.zero_le _, by simp⟩
 intro j ⟨hj, hpre⟩ ih
 apply exec_sound (noCtr _) 200
 rw [cc2_go]
 have found : ∀ hc : j < (d.to Int).length, badPos (d.to Int)[j] = true → (d.to Int).any badPos = true := fun hc hb => List.any_eq_true.2 ⟨_, List.getElem_mem hc, hb⟩
 refine ⟨fun hc => ?_, fun hc => ?_⟩
 ·simp only [decide_eq_true_eq] at hc
  have hc : j < (d.to Int).length := by omega
  obtain ⟨c1, c2, c3⟩ := int_at hd hc
  rw [c3]
  refine ⟨c1, c2, fun hc2 => ret_int ?_, fun hc2 => ⟨c1, c2, fun hc3 => ret_int ?_, fun hc3 => ?_⟩⟩
  ·rw [hk, found hc (by simp [badPos, hc2])]; rfl
  ·rw [hk, found hc (by simp [badPos, hc3])]; rfl
  ·have := ih (j + 1) ⟨hc, by rw [List.take_succ_eq_append_getElem hc, List.any_append, hpre]; simp at hc2 hc3; simp [badPos]; omega⟩ (by omega)
   rw [← wrap_succ hc (by omega)] at this
   exact this
 ·simp only [decide_eq_false_iff_not] at hc
  have : j = (d.to Int).length := by omega
  subst this
  rw [List.take_length] at hpre
  exact ret_int (by rw [hk, hpre]; rfl)

theorem lawCC1 : Law Try.prog 17 (rdCo.one.sp spCC) := by
 refine law_in _ (by kernel_rfl) fun H w ⟨n, r, p, dl, d, s, v⟩ hok hp => ?_
 obtain ⟨hd, hs⟩ := hp _ (List.mem_singleton.2 rfl)
 simp only at hd hs
 clear hp hok
 have hl := D.Is.length (α := Int) d
 have hl2 := D.Is.length (α := Bool) s
 apply exec_sound ctAny 300
 rw [show rdCo.one.canon ⟨n, r, p, dl, d, s, v⟩ = [.agg [.int .i64 n, .int .i64 r, .int .i64 p, .int .i64 dl, .dat d, .dat s, .bool v]] from rfl, cc1_in]
 simp only [CoD.co]
 have h3 : ∀ b : Bool, b = (d.to Int).any badPos → b = b := fun _ _ => rfl
 repeat' first
  | refine ⟨fun hc => ?_, fun hc => ?_⟩
  | refine ⟨⟨hd, by simp at *; omega⟩, ?_⟩
  | refine ret_int ?_
  | fail
 all_goals (simp only [decide_eq_true_eq, decide_eq_false_iff_not, bne_iff_ne, ne_eq, bne_eq_false_iff_eq, Bool.not_eq_true', Bool.not_eq_false', Decidable.not_not, ge_iff_le, gt_iff_lt, hl, hl2] at *; simp [checkCo, okTime, *] <;> omega)
theorem lawCC2 : Law Try.prog 18 (rdCo.one.sp spCC) := by
 refine law_in _ (by kernel_rfl) fun H w ⟨n, r, p, dl, d, s, v⟩ hok hp => ?_
 obtain ⟨hd, hs⟩ := hp _ (List.mem_singleton.2 rfl)
 simp only at hd hs
 clear hp hok
 have hl := D.Is.length (α := Int) d
 have hl2 := D.Is.length (α := Bool) s
 apply exec_sound (noCtr _) 300
 rw [show rdCo.one.canon ⟨n, r, p, dl, d, s, v⟩ = [.agg [.int .i64 n, .int .i64 r, .int .i64 p, .int .i64 dl, .dat d, .dat s, .bool v]] from rfl, cc2_in]
 simp only [CoD.co]
 repeat' first
  | refine ⟨fun hc => ?_, fun hc => ?_⟩
  | refine ret_int ?_
  | fail
 all_goals first
  | (refine cc2_loop hd n r p dl v w ?_ ?_ _ ?_ <;> simp only [decide_eq_true_eq, decide_eq_false_iff_not, bne_iff_ne, ne_eq, bne_eq_false_iff_eq, Bool.not_eq_true', Bool.not_eq_false', Decidable.not_not, ge_iff_le, gt_iff_lt, hl, hl2] at * <;> first | omega | (simp [checkCo, okTime, *] <;> omega))
  | (simp only [decide_eq_true_eq, decide_eq_false_iff_not, bne_iff_ne, ne_eq, bne_eq_false_iff_eq, Bool.not_eq_true', Bool.not_eq_false', Decidable.not_not, ge_iff_le, gt_iff_lt, hl, hl2] at *; simp [checkCo, okTime, *] <;> omega)
end Go.Proofs.Ytoechplbhbalaaa
end
section
open Go Go.Proofs Sx
namespace Go.Proofs.Ytoechplbhbalaaa
set_option maxRecDepth 100000
set_option maxHeartbeats 0
noncomputable def all1L (d out : D) (kind n i : Int) : Conf := Conf.mk (SFrm.mk 50 none none [Item.inLoop (cAt Try.prog 50 [1, 1, 0, 1, 0, 0]), Item.inBlock 0, Item.code (cAt Try.prog 50 [1, 1, 1])]
 (mkJ 0 [(0, .elt d 0 0), (1, .int .i64 kind), (5, .vec 0), (11, .int .i64 n), (12, .int .i64 i)] 0 33)) [] [(0, .arr 50 out)]
noncomputable def all2L (nodes round phase deadline : Int) (d s out : D) (v : SV) (kind i : Int) : Conf := Conf.mk (SFrm.mk 51 none none [Item.inLoop (cAt Try.prog 51 [1, 1, 0, 1, 0, 0]), Item.inBlock 0, Item.code (cAt Try.prog 51 [1, 1, 1])]
 (mkJ 0 [(1, .int .i64 kind), (2, .ptr 0 0), (5, .vec 1), (6, .int .i64 i)] 0 24)) [] [(0, .cells 25 [.int .i64 nodes, .int .i64 round, .int .i64 phase, .int .i64 deadline, .dat d, .dat s, v]), (1, .arr 50 out)]
noncomputable def samecoL (n r p dl n' r' p' dl' : Int) (d s d' s' : D) (v v' : Bool) (j : Int) : Conf := Conf.mk (SFrm.mk 15 none none [Item.inLoop (cAt Try.prog 15 [1, 1, 0, 1, 0, 0]), Item.inBlock 0, Item.code (cAt Try.prog 15 [1, 1, 1])]
 (mkJ 0 [(2, .ptr 0 0), (3, .ptr 1 0), (5, .int .i64 j)] 0 74)) [] [(0, .cells 25 [.int .i64 n, .int .i64 r, .int .i64 p, .int .i64 dl, .dat d, .dat s, .bool v]), (1, .cells 25 [.int .i64 n', .int .i64 r', .int .i64 p', .int .i64 dl', .dat d', .dat s', .bool v'])]
noncomputable def samemsL (a b : D) (j : Int) : Conf := Conf.mk (SFrm.mk 16 none none [Item.inLoop (cAt Try.prog 16 [1, 1, 0, 1, 0, 0]), Item.inBlock 0, Item.code (cAt Try.prog 16 [1, 1, 1])]
 (mkJ 0 [(0, .dat a), (1, .dat b), (5, .int .i64 j)] 0 84)) [] []
section
variable (n j i : Int) (v : SV) (a b d s out d' s' : D) (nodes round phase deadline now patience kind n' r p dl r' p' dl' : Int) (valid valid' : Bool)
theorem cl1_in : execT Try.prog [] (fun _ => false) 19 (entry Try.prog 54 [.dat d]) =
 Tree.br
 (nilOf
 (evS
 (putS [.dat d, SV.undef, .nils, SV.undef, SV.undef, SV.undef, SV.undef, SV.undef] (some 3)
 (evS [.dat d, SV.undef, .nils, SV.undef, SV.undef, SV.undef, SV.undef, SV.undef] (Operand.tmp 0)))
 (Operand.tmp 3))
 d)
 (.ret .nils)
 (.all fun hs =>
 .need
 (D.sz (D.slc (D.hd (hs 0 0)) 1 []) = 1 ∧
 D.Fits d 1 ∧
 (D.len (D.slc (D.hd (hs 0 0)) 1 []) + D.len d) * 8 ≤ 140737488355328 ∧
 D.len (D.slc (D.hd (hs 0 0)) 1 []) + D.len d ≤ 9223372036854775807)
 (.all fun hs_1 =>
 .leaf
 (Conf.mk
 (SFrm.mk 54 none none [Item.code (cAt Try.prog 54 [1, 0, 1, 0, 1])]
 (mkU
 [(0, .dat d), (2, .vec 1007), (3, .dat d),
 (4,
 .bool
 (nilOf
 (evS
 (putS [.dat d, SV.undef, .nils, SV.undef, SV.undef, SV.undef, SV.undef, SV.undef] (some 3)
 (evS [.dat d, SV.undef, .nils, SV.undef, SV.undef, SV.undef, SV.undef, SV.undef]
 (Operand.tmp 0)))
 (Operand.tmp 3))
 d)),
 (5, .vec 1005), (6, .dat d), (7, .vec 1007)]
 0 8))
 []
 [(1007,
 OBlk.arr 3
 (D.slc (D.hd (hs_1 0 0)) 1 (List.append (D.rows (D.slc (D.hd (hs 0 0)) 1 [])) (D.rows d))))]))) := by kernel_rfl

theorem cl2_in : execT Try.prog [] (fun _ => false) 19 (entry Try.prog 82 [.dat d]) =
 Tree.br
 (nilOf
 (evS
 (putS [.dat d, SV.undef, .nils, SV.undef, SV.undef, SV.undef, SV.undef, SV.undef] (some 3)
 (evS [.dat d, SV.undef, .nils, SV.undef, SV.undef, SV.undef, SV.undef, SV.undef] (Operand.tmp 0)))
 (Operand.tmp 3))
 d)
 (.ret .nils)
 (.all fun hs =>
 .need
 (D.sz (D.slc (D.hd (hs 0 0)) 1 []) = 1 ∧
 D.Fits d 1 ∧
 (D.len (D.slc (D.hd (hs 0 0)) 1 []) + D.len d) * 1 ≤ 140737488355328 ∧
 D.len (D.slc (D.hd (hs 0 0)) 1 []) + D.len d ≤ 9223372036854775807)
 (.all fun hs_1 =>
 .leaf
 (Conf.mk
 (SFrm.mk 82 none none [Item.code (cAt Try.prog 82 [1, 0, 1, 0, 1])]
 (mkU
 [(0, .dat d), (2, .vec 1007), (3, .dat d),
 (4,
 .bool
 (nilOf
 (evS
 (putS [.dat d, SV.undef, .nils, SV.undef, SV.undef, SV.undef, SV.undef, SV.undef] (some 3)
 (evS [.dat d, SV.undef, .nils, SV.undef, SV.undef, SV.undef, SV.undef, SV.undef]
 (Operand.tmp 0)))
 (Operand.tmp 3))
 d)),
 (5, .vec 1005), (6, .dat d), (7, .vec 1007)]
 0 8))
 []
 [(1007,
 OBlk.arr 4
 (D.slc (D.hd (hs_1 0 0)) 1 (List.append (D.rows (D.slc (D.hd (hs 0 0)) 1 [])) (D.rows d))))]))) := by kernel_rfl

theorem all1_in : exec Try.prog [] 200 (entry Try.prog 50 [.elt d 0 0, .int .i64 kind]) =
 Tree.need (D.HasCell d 0 0 (FT.int .i64))
 (.leaf
 (Conf.mk
 (SFrm.mk 50 none none
 [Item.inLoop (cAt Try.prog 50 [1, 1, 0, 1, 0, 0]), Item.inBlock 0, Item.code (cAt Try.prog 50 [1, 1, 1])]
 (mkJ 0
 [(0, SV.elt d 0 0), (1, .int .i64 kind), (5, .nils), (11, .int .i64 (D.getInt d 0 0)),
 (12, .int .i64 0)]
 0 33))
 [] [])) := by kernel_rfl

theorem all1_go : exec Try.prog [] 200 (unroll (all1L d out kind n i)) =
 Tree.br (decide (i < n))
 (.all fun hs =>
 .need (D.HasCell d 0 0 (FT.int .i64))
 (.need (D.HasCell d 0 1 (FT.int .i64))
 (.need
 (D.sz out = 8 ∧
 D.Fits
 (D.slc (D.hd (hs 14 0)) 8
 [[D.int .i64 kind, D.int .i64 (D.getInt d 0 0), D.int .i64 i,
 D.int .i64 (D.getInt d 0 1), D.int .i64 0, D.int .i64 0, D.slc none 0 [],
 D.slc none 0 []]])
 8 ∧
 (D.len out +
 D.len
 (D.slc (D.hd (hs 14 0)) 8
 [[D.int .i64 kind, D.int .i64 (D.getInt d 0 0), D.int .i64 i,
 D.int .i64 (D.getInt d 0 1), D.int .i64 0, D.int .i64 0,
 D.slc none 0 [], D.slc none 0 []]])) *
 96 ≤
 140737488355328 ∧
 D.len out +
 D.len
 (D.slc (D.hd (hs 14 0)) 8
 [[D.int .i64 kind, D.int .i64 (D.getInt d 0 0), D.int .i64 i,
 D.int .i64 (D.getInt d 0 1), D.int .i64 0, D.int .i64 0,
 D.slc none 0 [], D.slc none 0 []]]) ≤
 9223372036854775807)
 (.leaf
 (Conf.mk
 (SFrm.mk 50 none none
 [Item.inLoop (cAt Try.prog 50 [1, 1, 0, 1, 0, 0]), Item.inBlock 0,
 Item.code (cAt Try.prog 50 [1, 1, 1])]
 (mkJ 0
 [(0, SV.elt d 0 0), (1, .int .i64 kind), (5, .vec 0), (11, .int .i64 n),
 (12, .int .i64 (IntKind.wrap .i64 (i + 1)))]
 0 33))
 []
 [(0,
 OBlk.arr 50
 (D.slc (D.hd (hs 15 0)) 8
 (List.append (D.rows out)
 (D.rows
 (D.slc (D.hd (hs 14 0)) 8
 [[D.int .i64 kind, D.int .i64 (D.getInt d 0 0), D.int .i64 i,
 D.int .i64 (D.getInt d 0 1), D.int .i64 0, D.int .i64 0,
 D.slc none 0 [], D.slc none 0 []]])))))])))))
 (.ret (.dat out)) := by kernel_rfl

theorem all2_in : exec Try.prog [] 200 (entry Try.prog 51 [.agg [.int .i64 nodes, .int .i64 round, .int .i64 phase, .int .i64 deadline, .dat d, .dat s, .bool valid], .int .i64 kind]) =
 Tree.leaf
 (Conf.mk
 (SFrm.mk 51 none none
 [Item.inLoop (cAt Try.prog 51 [1, 1, 0, 1, 0, 0]), Item.inBlock 0, Item.code (cAt Try.prog 51 [1, 1, 1])]
 (mkJ 0 [(1, .int .i64 kind), (2, .ptr 0 0), (5, .nils), (6, .int .i64 0)] 0 24))
 []
 [(0,
 OBlk.cells 25
 [.int .i64 nodes, .int .i64 round, .int .i64 phase, .int .i64 deadline,
 .dat d, .dat s, .bool valid])]) := by kernel_rfl

theorem all2_go : exec Try.prog [] 200 (unroll (all2L nodes round phase deadline d s out (.bool valid) kind i)) =
 Tree.br (decide (i < nodes))
 (.all fun hs =>
 .need
 (D.sz out = 8 ∧
 D.Fits
 (D.slc (D.hd (hs 0 0)) 8
 [[D.int .i64 kind, D.int .i64 nodes, D.int .i64 i, D.int .i64 round,
 D.int .i64 0, D.int .i64 0, D.slc none 0 [], D.slc none 0 []]])
 8 ∧
 (D.len out +
 D.len
 (D.slc (D.hd (hs 0 0)) 8
 [[D.int .i64 kind, D.int .i64 nodes, D.int .i64 i, D.int .i64 round,
 D.int .i64 0, D.int .i64 0, D.slc none 0 [], D.slc none 0 []]])) *
 96 ≤
 140737488355328 ∧
 D.len out +
 D.len
 (D.slc (D.hd (hs 0 0)) 8
 [[D.int .i64 kind, D.int .i64 nodes, D.int .i64 i, D.int .i64 round,
 D.int .i64 0, D.int .i64 0, D.slc none 0 [], D.slc none 0 []]]) ≤
 9223372036854775807)
 (.all fun hs_1 =>
 .leaf
 (Conf.mk
 (SFrm.mk 51 none none
 [Item.inLoop (cAt Try.prog 51 [1, 1, 0, 1, 0, 0]), Item.inBlock 0, Item.code (cAt Try.prog 51 [1, 1, 1])]
 (mkJ 0
 [(1, .int .i64 kind), (2, .ptr 0 0), (5, .vec 1),
 (6, .int .i64 (IntKind.wrap .i64 (i + 1)))]
 0 24))
 []
 [(0,
 OBlk.cells 25
 [.int .i64 nodes, .int .i64 round, .int .i64 phase,
 .int .i64 deadline, .dat d, .dat s, .bool valid]),
 (1,
 OBlk.arr 50
 (D.slc (D.hd (hs_1 0 0)) 8
 (List.append (D.rows out)
 (D.rows
 (D.slc (D.hd (hs 0 0)) 8
 [[D.int .i64 kind, D.int .i64 nodes, D.int .i64 i,
 D.int .i64 round, D.int .i64 0, D.int .i64 0, D.slc none 0 [],
 D.slc none 0 []]])))))])))
 (.ret (.dat out)) := by kernel_rfl

theorem res1_in : exec Try.prog ctB 300 (entry Try.prog 21 [.agg [.int .i64 nodes, .int .i64 round, .int .i64 phase, .int .i64 deadline, .dat d, .dat s, .bool valid]]) =
 Tree.need (D.Is Int d ∧ D.Is Bool s)
 (.br (checkCo (CoD.co (CoD.mk nodes round phase deadline d s valid)) != 0)
 (.ret (SV.tup [.nils, .lb false]))
 (.br (!valid) (.ret (SV.tup [.nils, .lb false]))
 (.need (D.Is Int d ∧ D.len d ≤ 1048576)
 (.all fun hs => .ret (SV.tup [.dat (D.slc (D.hd (hs 0 0)) 1 (D.rows d)), .lb true]))))) := by kernel_rfl

theorem res2_in : exec Try.prog ctB 300 (entry Try.prog 22 [.agg [.int .i64 nodes, .int .i64 round, .int .i64 phase, .int .i64 deadline, .dat d, .dat s, .bool valid]]) =
 Tree.need (D.Is Int d ∧ D.Is Bool s)
 (.br (checkCo (CoD.co (CoD.mk nodes round phase deadline d s valid)) != 0)
 (.ret (SV.tup [.nils, .lb false]))
 (.br (!valid) (.ret (SV.tup [.nils, .lb false])) (.ret (SV.tup [.dat d, .lb true])))) := by kernel_rfl

theorem start1_in : 
 let z3 : List SV := [.int .i64 0, .int .i64 0, .int .i64 0, .int .i64 0, .nils, .nils, .lb false]
 let z1 : Tree := (.br (phase != 0) (.ret (SV.tup [.agg z3, .nils, .int .i64 26])) (.br (decide (round = 1073741824)) (.ret (SV.tup [.agg z3, .nils, .int .i64 6])) (.all fun hs => .all fun hs_1 => .need (Co.nodes (Prod.fst (newCo nodes)) ≤ 8) (.ret (SV.tup [.agg [.int .i64 (Co.nodes (Prod.fst (newCo nodes))), .int .i64 (IntKind.wrap .i64 (round + 1)), .int .i64 1, .int .i64 (IntKind.wrap .i64 (now + patience)), .dat (D.like (hs 0 0) (Co.positions (Prod.fst (newCo nodes)))), .dat (D.like (hs 0 1) (Co.seen (Prod.fst (newCo nodes)))), .bool (Co.valid (Prod.fst (newCo nodes)))], .dat (D.like (hs_1 5 0) (msgsTo (Co.nodes (Prod.fst (newCo nodes))) (IntKind.wrap .i64 (round + 1)) 1)), .int .i64 0])))))
 let z2 : Tree := (.ret (SV.tup [.agg z3, .nils, .int .i64 24]))
 exec Try.prog ctB 500 (entry Try.prog 13 [.agg [.int .i64 nodes, .int .i64 round, .int .i64 phase, .int .i64 deadline, .dat d, .dat s, .bool valid], .int .i64 now, .int .i64 patience]) =
 Tree.need (D.Is Int d ∧ D.Is Bool s) (.br (checkCo (CoD.co (CoD.mk nodes round phase deadline d s valid)) != 0) (.ret (SV.tup [.agg z3, .nils, .int .i64 (checkCo (CoD.co (CoD.mk nodes round phase deadline d s valid)))]))
 (.br (decide (now ≥ 0)) (.br (!decide (now ≤ 1073741824)) (.br (!decide (now ≤ 1073741824)) z2 z1) (.br (decide (patience < 1)) (.br (decide (patience < 1)) z2 z1) (.br (decide (patience > IntKind.wrap .i64
 (1073741824 - now))) z2 z1))) z2)) := by
 intros; kernel_rfl

theorem start2_in : exec Try.prog ctB 500 (entry Try.prog 14 [.agg [.int .i64 nodes, .int .i64 round, .int .i64 phase, .int .i64 deadline, .dat d, .dat s, .bool valid], .int .i64 now, .int .i64 patience]) =
 Tree.need (D.Is Int d ∧ D.Is Bool s)
 (.br (checkCo (CoD.co (CoD.mk nodes round phase deadline d s valid)) != 0)
 (.ret
 (SV.tup
 [.agg
 [.int .i64 0, .int .i64 0, .int .i64 0, .int .i64 0, .nils, .nils,
 .lb false],
 .nils, .int .i64 3]))
 (.br (decide (now < 0))
 (.ret
 (SV.tup
 [.agg
 [.int .i64 0, .int .i64 0, .int .i64 0, .int .i64 0, .nils, .nils,
 .lb false],
 .nils, .int .i64 24]))
 (.br (decide (patience < 1))
 (.ret
 (SV.tup
 [.agg
 [.int .i64 0, .int .i64 0, .int .i64 0, .int .i64 0, .nils,
 .nils, .lb false],
 .nils, .int .i64 24]))
 (.br (decide (now > 1073741824))
 (.ret
 (SV.tup
 [.agg
 [.int .i64 0, .int .i64 0, .int .i64 0, .int .i64 0, .nils,
 .nils, .lb false],
 .nils, .int .i64 24]))
 (.br (decide (patience > IntKind.wrap .i64 (1073741824 - now)))
 (.ret
 (SV.tup
 [.agg
 [.int .i64 0, .int .i64 0, .int .i64 0, .int .i64 0, .nils,
 .nils, .lb false],
 .nils, .int .i64 24]))
 (.br (phase != 0)
 (.ret
 (SV.tup
 [.agg
 [.int .i64 0, .int .i64 0, .int .i64 0, .int .i64 0, .nils,
 .nils, .lb false],
 .nils, .int .i64 26]))
 (.br (decide (round = 1073741824))
 (.ret
 (SV.tup
 [.agg
 [.int .i64 0, .int .i64 0, .int .i64 0, .int .i64 0,
 .nils, .nils, .lb false],
 .nils, .int .i64 6]))
 (.all fun hs =>
 .all fun hs_1 =>
 .need (Co.nodes (Prod.fst (newCo nodes)) ≤ 8)
 (.ret
 (SV.tup
 [.agg
 [.int .i64 (Co.nodes (Prod.fst (newCo nodes))),
 .int .i64 (IntKind.wrap .i64 (round + 1)), .int .i64 1,
 .int .i64 (IntKind.wrap .i64 (now + patience)),
 .dat (D.like (hs 0 0) (Co.positions (Prod.fst (newCo nodes)))),
 .dat (D.like (hs 0 1) (Co.seen (Prod.fst (newCo nodes)))),
 .bool (Co.valid (Prod.fst (newCo nodes)))],
 .dat
 (D.like (hs_1 2 0)
 (msgsTo (Co.nodes (Prod.fst (newCo nodes))) (IntKind.wrap .i64 (round + 1)) 1)),
 .int .i64 0])))))))))) := by kernel_rfl

theorem sameco_in : exec Try.prog ctB 500 (entry Try.prog 15 [.agg [.int .i64 n, .int .i64 r, .int .i64 p, .int .i64 dl, .dat d, .dat s, .bool valid], .agg [.int .i64 n', .int .i64 r', .int .i64 p', .int .i64 dl', .dat d', .dat s', .bool valid']]) =
 Tree.br (n != n') (.ret (.lb false))
 (.br (r != r') (.ret (.lb false))
 (.br (p != p') (.ret (.lb false))
 (.br (dl != dl') (.ret (.lb false))
 (.br (!decide (valid = valid')) (.ret (.lb false))
 (.need (D.Is Int d ∧ D.Is Int d' ∧ D.len d ≤ 1048576)
 (.br (!decide (D.to Int d = D.to Int d')) (.ret (.lb false))
 (.br ((↑(D.len s) : Int) != (↑(D.len s') : Int)) (.ret (.lb false))
 (.leaf
 (Conf.mk
 (SFrm.mk 15 none none
 [Item.inLoop (cAt Try.prog 15 [1, 1, 0, 1, 0, 0]), Item.inBlock 0,
 Item.code (cAt Try.prog 15 [1, 1, 1])]
 (mkJ 0 [(2, .ptr 0 0), (3, .ptr 1 0), (5, .int .i64 0)] 0 74))
 []
 [(0,
 OBlk.cells 25
 [.int .i64 n, .int .i64 r, .int .i64 p, .int .i64 dl,
 .dat d, .dat s, .bool valid]),
 (1,
 OBlk.cells 25
 [.int .i64 n', .int .i64 r', .int .i64 p', .int .i64 dl',
 .dat d', .dat s', .bool valid'])]))))))))) := by kernel_rfl

theorem sameco_go : exec Try.prog ctB 500 (unroll (samecoL n r p dl n' r' p' dl' d s d' s' valid valid' j)) =
 Tree.br (decide (j < (↑(D.len s) : Int)))
 (.all fun hs =>
 .need (0 ≤ j ∧ j < (↑(D.len s) : Int) ∧ D.sz s = 1)
 (.need (D.HasCell s (Int.toNat j) 0 FT.bool)
 (.need (0 ≤ j ∧ j < (↑(D.len s') : Int) ∧ D.sz s' = 1)
 (.need (D.HasCell s' (Int.toNat j) 0 FT.bool)
 (.br (!decide (D.getBool s (Int.toNat j) 0 = D.getBool s' (Int.toNat j) 0)) (.ret (.lb false))
 (.leaf
 (Conf.mk
 (SFrm.mk 15 none none
 [Item.inLoop (cAt Try.prog 15 [1, 1, 0, 1, 0, 0]), Item.inBlock 0,
 Item.code (cAt Try.prog 15 [1, 1, 1])]
 (mkJ 0
 [(2, .ptr 0 0), (3, .ptr 1 0), (5, .int .i64 (IntKind.wrap .i64 (j + 1)))] 0
 74))
 []
 [(0,
 OBlk.cells 25
 [.int .i64 n, .int .i64 r, .int .i64 p, .int .i64 dl,
 .dat d, .dat s, .bool valid]),
 (1,
 OBlk.cells 25
 [.int .i64 n', .int .i64 r', .int .i64 p', .int .i64 dl',
 .dat d', .dat s', .bool valid'])])))))))
 (.ret (.lb true)) := by kernel_rfl

theorem samems_in : exec Try.prog ctB 500 (entry Try.prog 16 [.dat a, .dat b]) =
 Tree.br ((↑(D.len a) : Int) != (↑(D.len b) : Int)) (.ret (.lb false))
 (.leaf
 (Conf.mk
 (SFrm.mk 16 none none
 [Item.inLoop (cAt Try.prog 16 [1, 1, 0, 1, 0, 0]), Item.inBlock 0, Item.code (cAt Try.prog 16 [1, 1, 1])]
 (mkJ 0 [(0, .dat a), (1, .dat b), (5, .int .i64 0)] 0 84))
 [] [])) := by kernel_rfl

theorem samems_go : exec Try.prog ctB 500 (unroll (samemsL a b j)) =
 Tree.br (decide (j < (↑(D.len a) : Int)))
 (.all fun hs =>
 .need (0 ≤ j ∧ j < (↑(D.len a) : Int) ∧ D.sz a = 8)
 (.need
 (D.HasCells a (Int.toNat j) 0
 [FT.int .i64, FT.int .i64, FT.int .i64, FT.int .i64, FT.int .i64,
 FT.int .i64, FT.slc, FT.slc])
 (.need (0 ≤ j ∧ j < (↑(D.len b) : Int) ∧ D.sz b = 8)
 (.need
 (D.HasCells b (Int.toNat j) 0
 [FT.int .i64, FT.int .i64, FT.int .i64, FT.int .i64, FT.int .i64,
 FT.int .i64, FT.slc, FT.slc])
 (.br (D.getInt a (Int.toNat j) 0 != D.getInt b (Int.toNat j) 0) (.ret (.lb false))
 (.br (D.getInt a (Int.toNat j) 1 != D.getInt b (Int.toNat j) 1) (.ret (.lb false))
 (.br (D.getInt a (Int.toNat j) 2 != D.getInt b (Int.toNat j) 2) (.ret (.lb false))
 (.br (D.getInt a (Int.toNat j) 3 != D.getInt b (Int.toNat j) 3) (.ret (.lb false))
 (.br (D.getInt a (Int.toNat j) 4 != D.getInt b (Int.toNat j) 4) (.ret (.lb false))
 (.br (D.getInt a (Int.toNat j) 5 != D.getInt b (Int.toNat j) 5) (.ret (.lb false))
 (.need
 (D.Is Int (D.cell a (Int.toNat j) 6) ∧
 D.Is Int (D.cell b (Int.toNat j) 6) ∧ D.len (D.cell a (Int.toNat j) 6) ≤ 1048576)
 (.br (!decide (D.to Int (D.cell a (Int.toNat j) 6) = D.to Int (D.cell b (Int.toNat j) 6)))
 (.ret (.lb false))
 (.need (D.IsBytes (D.cell a (Int.toNat j) 7))
 (.need (D.IsBytes (D.cell b (Int.toNat j) 7))
 (.br
 (!List.beq (ByteArray.toList (D.bytesOf (D.cell a (Int.toNat j) 7)))
 (ByteArray.toList (D.bytesOf (D.cell b (Int.toNat j) 7))))
 (.ret (.lb false))
 (.leaf
 (Conf.mk
 (SFrm.mk 16 none none
 [Item.inLoop (cAt Try.prog 16 [1, 1, 0, 1, 0, 0]), Item.inBlock 0,
 Item.code (cAt Try.prog 16 [1, 1, 1])]
 (mkJ 0
 [(0, .dat a), (1, .dat b),
 (5, .int .i64 (IntKind.wrap .i64 (j + 1)))]
 0 84))
 [] [])))))))))))))))))
 (.ret (.lb true)) := by kernel_rfl

end
end Go.Proofs.Ytoechplbhbalaaa
end
section
open Go Go.Proofs Sx
namespace Sx

theorem val_int {d : D} {k : IntKind} {n : Int} (h : d.val = .int k n) : d = .int k n := by
 cases d with
 | int k' n' => simp only [D.val, Value.int.injEq] at h; rw [h.1, h.2]
 | bool b => simp [D.val] at h
 | str s => simp [D.val] at h
 | slc hh s r => cases hh <;> simp [D.val, hval] at h

theorem empty_ok {H H2 : HV} {d : D} (h : d.Ok H) (hs : d.IsSlc) (hr : d.rows = []) : d.Ok H2 := by
 obtain ⟨a, b, c, rfl⟩ := hs
 simp only [D.rows] at hr
 subst hr
 cases h with
 | nil => exact .nil _
 | slc => exact .slc _ _ _ [] (by simp) (by simp) (by simp) (by simp) (by simp)
theorem msgs_far {H' H2 : HV} {b n : Nat} (hn : n ≤ 7) (hb : ∀ o, n ≤ o → H' b o = none) (h2 : ∀ b' o v, b' ≠ b → H' b' o = some v → H2 b' o = some v) {d : D}
  (hms : ∀ m, m ∈ d.to Msg → m.values = [] ∧ m.body = []) (hd : d.Is Msg) (hok : d.Ok H') : d.Ok H2 := by
 obtain ⟨h, s, rows, rfl, hs, hr⟩ := hd
 cases hok with
 | nil => exact .nil _
 | slc a c sz rows h1 h2' h3 h4 h5 =>
  refine .slc a c s rows h1 h2' h3 (fun i j r x hi hj => h2 _ _ _ (fun hbk => ?_) (h4 i j r x hi hj)) (fun r hrr x hx => ?_)
  ·have hmem := List.mem_of_getElem? hi
   have hs8 : s = 8 := by
    rcases hs with rfl | hs
    ·cases hmem
    ·exact hs
   have hl := h3 r hmem
   subst hs8
   have h7 : r[7]? = some r[7] := List.getElem?_eq_getElem (by omega)
   have := h4 i 7 r r[7] hi h7
   rw [hbk, hb _ (by omega)] at this
   cases this
  ·obtain ⟨e1, e2, e3, e4, e5, e6, v, w, rfl, hv, hw⟩ := hr r hrr
   have hm := hms _ (List.mem_map.2 ⟨_, hrr, rfl⟩)
   have hx' := h5 _ hrr x hx
   simp only [List.mem_cons, List.not_mem_nil, or_false] at hx
   rcases hx with rfl | rfl | rfl | rfl | rfl | rfl | rfl | rfl
   ·exact .int ..
   ·exact .int ..
   ·exact .int ..
   ·exact .int ..
   ·exact .int ..
   ·exact .int ..
   ·exact empty_ok hx' hv.slc (by have : (x.to Int) = [] := hm.1; simpa [D.to] using this)
   ·exact empty_ok hx' hw.slc (by have : (x.to Byte) = [] := hm.2; simpa [D.to] using this)

theorem checkCo_zero {n r p dl : Int} {ps : List Int} {ss : List Bool} {v : Bool} : checkCo ⟨n, r, p, dl, ps, ss, v⟩ = 0 ↔
  (1 ≤ n ∧ n ≤ 8) ∧ (0 ≤ r ∧ r ≤ 1073741824) ∧ (0 ≤ dl ∧ dl ≤ 1073741824) ∧ (0 ≤ p ∧ p ≤ 2) ∧ (ps.length : Int) = n ∧ (ss.length : Int) = n ∧ (v = true → p = 0) ∧ ps.any badPos = false := by
 unfold checkCo
 simp only [okTime]
 split
 ·rename_i h
  constructor
  ·intro h; cases h
  ·intro h'
   simp only [Bool.and_eq_false_imp, decide_eq_true_eq, decide_eq_false_iff_not] at h
   omega
 ·rename_i h
  simp only [Bool.and_eq_false_imp, decide_eq_true_eq, decide_eq_false_iff_not, not_or, Classical.not_imp, Decidable.not_not] at h
  split
  ·rename_i h2
   constructor
   ·intro h; cases h
   ·rintro ⟨_, _, _, _, h3, h4, h5, _⟩
    rcases h2 with h2 | h2 | ⟨h2, h6⟩
    ·exact absurd h3 h2
    ·exact absurd h4 h2
    ·exact absurd (h5 h2) h6
  ·rename_i h2
   simp only [not_or, not_and, Decidable.not_not] at h2
   split
   ·rename_i h3
    constructor
    ·intro h; cases h
    ·rintro ⟨_, _, _, _, _, _, _, h4⟩; rw [h3] at h4; cases h4
   ·rename_i h3
    simp only [Bool.not_eq_true] at h3
    simp only [true_iff]
    exact ⟨by omega, by omega, by omega, by omega, h2.1, h2.2.1, h2.2.2, h3⟩

theorem checkCo_or (c : Co) : checkCo c = 0 ∨ checkCo c = 3 := by
 unfold checkCo
 split
 ·exact .inr rfl
 ·split
  ·exact .inr rfl
  ·split
   ·exact .inr rfl
   ·exact .inl rfl

theorem newCo_eq {n : Int} (h : 1 ≤ n ∧ n ≤ 8) : newCo n = (⟨n, 0, 0, 0, List.replicate n.toNat 0, List.replicate n.toNat false, false⟩, 0) := by rw [newCo, if_neg (by omega)]

theorem startCo_eq {n r p dl now patience : Int} {ps : List Int} {ss : List Bool} {v : Bool} (h : checkCo ⟨n, r, p, dl, ps, ss, v⟩ = 0) : startCo ⟨n, r, p, dl, ps, ss, v⟩ now patience =
  if now < 0 ∨ now > 1073741824 ∨ patience < 1 ∨ patience > 1073741824 - now then (zCo, [], 24) else if p ≠ 0 then (zCo, [], 26) else if r = 1073741824 then (zCo, [], 6)
  else (⟨n, r + 1, 1, now + patience, List.replicate n.toNat 0, List.replicate n.toNat false, false⟩, msgsTo n (r + 1) 1, 0) := by
 have hz := checkCo_zero.1 h
 unfold startCo
 rw [if_neg (by simp [h])]
 have e : (okTime now = false ∨ patience < 1 ∨ patience > 1073741824 - now) ↔ (now < 0 ∨ now > 1073741824 ∨ patience < 1 ∨ patience > 1073741824 - now) := by
  simp only [okTime, Bool.and_eq_false_imp, decide_eq_true_eq, decide_eq_false_iff_not]
  omega
 by_cases h1 : okTime now = false ∨ patience < 1 ∨ patience > 1073741824 - now
 ·rw [if_pos h1, if_pos (e.1 h1)]
 ·rw [if_neg h1, if_neg (fun hh => h1 (e.2 hh))]
  split
  ·rfl
  ·split
   ·rfl
   ·simp only [newCo_eq hz.1, allMsgs_eq]

section
variable {P : Program} {w : World} {H : HV}
theorem ret_co3 {n r p dl k : Int} {X Y V Z : SV} {ps : List Int} {ss : List Bool} {v : Bool} {ms : List Msg} {res : Co × List Msg × Int} (hx : Stands Int X ps) (hy : Stands Bool Y ss) (hv : ∀ E, V.den E = (SV.bool v).den E) (hz : Stands Msg Z ms)
  (hr : res = (⟨n, r, p, dl, ps, ss, v⟩, ms, k)) :
  (Tree.ret (.tup [.agg [.int .i64 n, .int .i64 r, .int .i64 p, .int .i64 dl, X, Y, V], Z, .int .i64 k])).holds P ⟨w, H⟩ (RetD w H fun ds => .tup [coSV (ds 0) (ds 1) res.1, .dat ((ds 2).like res.2.1), .int .i64 res.2.2]) := by
 subst hr
 obtain ⟨d, h1, h2, h3, h4⟩ := hx
 obtain ⟨d', h1', h2', h3', h4'⟩ := hy
 obtain ⟨d'', h1'', h2'', h3'', h4''⟩ := hz
 refine ret_D (fun i => match i with | 0 => d | 1 => d' | _ => d'') (fun E E' => ?_) (fun H' ho => ?_)
 ·have : V.den E = (SV.bool v).den E' := by rw [hv]; rfl
  simp only [SV.den, SV.denL, coSV, D.like_self h2 h3, D.like_self h2' h3', D.like_self h2'' h3'', h1, h1', h1'', this]
 ·simp only [SV.Ok, SV.OkL, coSV, D.like_self h2 h3, D.like_self h2' h3', D.like_self h2'' h3''] at ho ⊢
  exact ⟨⟨trivial, trivial, trivial, trivial, ⟨h4 _ ho.1.2.2.2.2.1, h2.slc⟩, ⟨h4' _ ho.1.2.2.2.2.2.1, h2'.slc⟩, trivial, trivial⟩, ⟨h4'' _ ho.2.1, h2''.slc⟩, trivial, trivial⟩

theorem ret_co2 {n r p dl : Int} {X Y V Z : SV} {ps : List Int} {ss : List Bool} {v : Bool} {ms : List Msg} {res : Co × List Msg} (hx : Stands Int X ps) (hy : Stands Bool Y ss) (hv : ∀ E, V.den E = (SV.bool v).den E) (hz : Stands Msg Z ms)
  (hr : res = (⟨n, r, p, dl, ps, ss, v⟩, ms)) :
  (Tree.ret (.tup [.agg [.int .i64 n, .int .i64 r, .int .i64 p, .int .i64 dl, X, Y, V], Z])).holds P ⟨w, H⟩ (RetD w H fun ds => .tup [coSV (ds 0) (ds 1) res.1, .dat ((ds 2).like res.2)]) := by
 subst hr
 obtain ⟨d, h1, h2, h3, h4⟩ := hx
 obtain ⟨d', h1', h2', h3', h4'⟩ := hy
 obtain ⟨d'', h1'', h2'', h3'', h4''⟩ := hz
 refine ret_D (fun i => match i with | 0 => d | 1 => d' | _ => d'') (fun E E' => ?_) (fun H' ho => ?_)
 ·have : V.den E = (SV.bool v).den E' := by rw [hv]; rfl
  simp only [SV.den, SV.denL, coSV, D.like_self h2 h3, D.like_self h2' h3', D.like_self h2'' h3'', h1, h1', h1'', this]
 ·simp only [SV.Ok, SV.OkL, coSV, D.like_self h2 h3, D.like_self h2' h3', D.like_self h2'' h3''] at ho ⊢
  exact ⟨⟨trivial, trivial, trivial, trivial, ⟨h4 _ ho.1.2.2.2.2.1, h2.slc⟩, ⟨h4' _ ho.1.2.2.2.2.2.1, h2'.slc⟩, trivial, trivial⟩, ⟨h4'' _ ho.2.1, h2''.slc⟩, trivial⟩

theorem ret_intsB {X V : SV} {xs : List Int} {v : Bool} {res : List Int × Bool} (hx : Stands Int X xs) (hv : ∀ E, V.den E = (SV.bool v).den E) (hr : res = (xs, v)) :
  (Tree.ret (.tup [X, V])).holds P ⟨w, H⟩ (RetD w H fun ds => .tup [.dat ((ds 0).like res.1), .bool res.2]) := by
 subst hr
 obtain ⟨d, h1, h2, h3, h4⟩ := hx
 refine ret_D (fun _ => d) (fun E E' => ?_) (fun H' ho => ?_)
 ·have : V.den E = (SV.bool v).den E' := by rw [hv]; rfl
  simp only [SV.den, SV.denL, D.like_self h2 h3, h1, this]
 ·simp only [SV.Ok, SV.OkL, D.like_self h2 h3] at ho ⊢
  exact ⟨⟨h4 _ ho.1, h2.slc⟩, trivial, trivial⟩

theorem ret_msgs' {X : SV} {ms r : List Msg} (hx : Stands Msg X ms) (hr : r = ms) : (Tree.ret X).holds P ⟨w, H⟩ (RetD w H fun ds => .dat ((ds 0).like r)) := by
 subst hr
 obtain ⟨d, h1, h2, h3, h4⟩ := hx
 refine ret_D (fun _ => d) (fun E E' => ?_) (fun H' ho => ?_)
 ·simp only [SV.den, D.like_self h2 h3, h1]
 ·simp only [SV.Ok, D.like_self h2 h3] at ho ⊢
  exact ⟨h4 _ ho, h2.slc⟩
end

theorem msg_row' {a b c d e f : Int} {m : Msg} (hm : m = ⟨a, b, c, d, e, f, [], []⟩) :
  SRows Msg [[.int .i64 a, .int .i64 b, .int .i64 c, .int .i64 d, .int .i64 e, .int .i64 f, .slc none 0 [], .slc none 0 []]] [m] := by
 subst hm
 exact rows_one (ok_msg ..) rfl

theorem bool_at {d : D} (hd : d.Is Bool) {j : Nat} (hj : j < (d.to Bool).length) :
  (0 ≤ (j : Int) ∧ (j : Int) < (d.len : Int) ∧ d.sz = 1) ∧ d.HasCell (Int.toNat j) 0 .bool ∧ d.getBool (Int.toNat j) 0 = (d.to Bool)[j] := by
 obtain ⟨h1, h2⟩ := bool_cell hd hj
 exact ⟨⟨by omega, by rw [D.Is.length (α := Bool)]; omega, by rw [hd.size hj]; rfl⟩, h2, h1⟩

theorem range_snoc {α : Type _} (f : Nat → α) (i : Nat) : (List.range (i + 1)).map f = (List.range i).map f ++ [f i] := by
 rw [List.range_succ, List.map_append]; rfl

theorem take_eq' {α : Type _} {xs ys : List α} {j : Nat} (hx : j < xs.length) (hy : j < ys.length) : xs.take (j + 1) = ys.take (j + 1) ↔ xs.take j = ys.take j ∧ xs[j] = ys[j] := by
 rw [List.take_succ_eq_append_getElem hx, List.take_succ_eq_append_getElem hy]
 constructor
 ·intro h
  have := List.append_inj h (by simp; omega)
  exact ⟨this.1, by simpa using this.2⟩
 ·rintro ⟨h1, h2⟩; rw [h1, h2]

theorem ne_of_take' {α : Type _} {xs ys : List α} {j : Nat} (hx : j < xs.length) (hy : j < ys.length) (h : xs[j] ≠ ys[j]) : xs ≠ ys := by
 rintro rfl; exact h rfl
end Sx

namespace Go.Proofs.Ytoechplbhbalaaa
set_option maxRecDepth 100000

theorem lawClone1 : OLaw Try.prog 54 (spClone Int 3) := by
 refine olaw_clone (by kernel_rfl) fun H w d hok hd hlen => ?_
 apply execT_sound (noCtr _) (fun _ => false) 19
 rw [cl1_in]
 refine ⟨fun hc => ?_, fun hc hs => ⟨⟨rfl, hd.fits, by simp only [len_slc, List.length_nil]; omega, by simp only [len_slc, List.length_nil]; omega⟩, fun hs1 => ?_⟩⟩
 ·have hc : d.isNil = true := hc
  have := nil_rows hok hc
  exact own_nil (h := .slc none 1 []) (by rw [this]; rfl)
 ·exact own_ret (f := Try.f54) (j := 1007) (h := hs1 0 0) (by kernel_rfl) (by kernel_rfl) rfl rfl

theorem lawClone2 : OLaw Try.prog 82 (spClone Bool 4) := by
 refine olaw_clone (by kernel_rfl) fun H w d hok hd hlen => ?_
 apply execT_sound (noCtr _) (fun _ => false) 19
 rw [cl2_in]
 refine ⟨fun hc => ?_, fun hc hs => ⟨⟨rfl, hd.fits, by simp only [len_slc, List.length_nil]; omega, by simp only [len_slc, List.length_nil]; omega⟩, fun hs1 => ?_⟩⟩
 ·have hc : d.isNil = true := hc
  have := nil_rows hok hc
  exact own_nil (h := .slc none 1 []) (by rw [this]; rfl)
 ·exact own_ret (f := Try.f82) (j := 1007) (h := hs1 0 0) (by kernel_rfl) (by kernel_rfl) rfl rfl

theorem all1_loop {H : HV} {b : Nat} {n r kind : Int} {row : List D} (hn : n ≤ 8) (w : World) :
  Runs Try.prog ⟨w, H⟩ (all1L (rowD b (.int .i64 n :: .int .i64 r :: row)) (.slc none 8 []) kind n 0) (RetD w H fun ds => .dat ((ds 0).like (msgsTo n r kind))) := by
 refine runs_loop (fun p : D × Nat => all1L (rowD b (.int .i64 n :: .int .i64 r :: row)) p.1 kind n p.2)
  (fun p => p.2 ≤ n.toNat ∧ p.1.Is Msg ∧ p.1.sz = 8 ∧ p.1.to Msg = (List.range p.2).map fun (i : Nat) => (⟨kind, n, (i : Int), r, 0, 0, [], []⟩ : Msg))
  (fun p => n.toNat - p.2) (fun _ => rfl) ?_ (.slc none 8 [], 0) ⟨Nat.zero_le _, is_nil _ _, rfl, rfl⟩
 intro ⟨out, i⟩ ⟨hi, hm, hs, hto⟩ ih
 simp only at hi hm hs hto
 apply exec_sound (noCtr _) 200
 rw [all1_go]
 have g0 : (rowD b (.int .i64 n :: .int .i64 r :: row)).getInt 0 0 = n := rfl
 have g1 : (rowD b (.int .i64 n :: .int .i64 r :: row)).getInt 0 1 = r := rfl
 have hml := D.Is.length (α := Msg) out
 rw [hto] at hml
 simp only [List.length_map, List.length_range] at hml
 rw [g0, g1]
 refine ⟨fun hc hs' => ⟨⟨n, rfl⟩, ⟨r, rfl⟩, ⟨hs, .inr rfl, by simp only [len_slc, List.length_cons, List.length_nil]; omega, by simp only [len_slc, List.length_cons, List.length_nil]; omega⟩, ?_⟩, fun hc => ?_⟩
 ·simp only [decide_eq_true_eq] at hc
  have hr := rows_app (rows_of hm) (msg_row' (m := ⟨kind, n, (i : Int), r, 0, 0, [], []⟩) rfl)
  obtain ⟨i1, i2⟩ := is_of (h := D.hd (hs' 15 0)) (s := 8) rfl hr
  have := ih (.slc (D.hd (hs' 15 0)) 8 (List.append (D.rows out) (D.rows (D.slc (D.hd (hs' 14 0)) 8 [[D.int IntKind.i64 kind, D.int IntKind.i64 n, D.int IntKind.i64 i, D.int IntKind.i64 r, D.int IntKind.i64 0, D.int IntKind.i64 0, D.slc none 0 [], D.slc none 0 []]]))), i + 1)
   ⟨by omega, i1, rfl, i2.trans (by rw [hto, range_snoc])⟩ (by simp only; omega)
  simp only at this
  rw [← wrap_succ (n := 9) (by omega) (by omega)] at this
  exact this
 ·simp only [decide_eq_false_iff_not] at hc
  have : i = n.toNat := by omega
  subst this
  exact ret_msgs' (stands_dat hm hto) rfl

theorem msgsTo_plain (n r k : Int) : ∀ m, m ∈ msgsTo n r k → m.values = [] ∧ m.body = [] := by
 intro m hm
 simp only [msgsTo, List.mem_map] at hm
 obtain ⟨i, _, rfl⟩ := hm
 exact ⟨rfl, rfl⟩

theorem lawAll1 : PLaw Try.prog 50 spAllP := by
 refine ⟨by kernel_rfl, fun H E b row cs args hrow hfree hcs hargs => ?_⟩
 unfold spAllP
 split
 ·rename_i heq
  split at heq
  ·rename_i n r cs'
   split at heq
   ·rename_i k
    split at heq
    ·rename_i hlen
     cases heq
     intro hp w hc
     have hn : n ≤ 8 := hp _ (List.mem_singleton.2 rfl)
     have hrl : row.length = 7 := by
      have := congrArg List.length hcs
      rw [SV.denL_eq] at this
      simp only [List.length_map, List.length_cons] at this hlen
      omega
     obtain ⟨a, a', row', rfl⟩ : ∃ a a' row', row = a :: a' :: row' := by
      match row, hrl with
      | a :: a' :: row', _ => exact ⟨a, a', row', rfl⟩
     simp only [SV.denL, SV.den, List.map_cons, List.cons.injEq] at hcs
     have e1 := val_int hcs.1.symm
     have e2 := val_int hcs.2.1.symm
     subst e1; subst e2
     have hcall := calls_of (args := [.elt (rowD b (.int .i64 n :: .int .i64 r :: row')) 0 0, .int .i64 k]) (P := Try.prog) (f := 50) (H := H) (w := w)
      (R := RetD w H fun ds => .dat ((ds 0).like (msgsTo n r k))) (by kernel_rfl) ⟨hrow, trivial, trivial⟩ E hc (by
       apply exec_sound (noCtr _) 200
       rw [all1_in]
       refine ⟨⟨n, rfl⟩, ?_⟩
       have g0 : (rowD b (.int .i64 n :: .int .i64 r :: row')).getInt 0 0 = n := rfl
       rw [g0]
       exact vecTo 0 50 8 none 5 (all1L (rowD b (.int .i64 n :: .int .i64 r :: row')) (.slc none 8 []) k n 0) (by kernel_rfl) (all1_loop hn w))
     refine Calls.mono hcall fun e w' ⟨v, he, H', ha, ds, hden, hok⟩ => ⟨v, H', he, ha, fun i => ds i, hden E, fun H2 h2 => ?_⟩
     simp only [SV.Ok] at hok ⊢
     refine ⟨msgs_far (b := b) (n := 7) (Nat.le_refl _) (fun o ho => ?_) h2 (by rw [D.like_to]; exact msgsTo_plain n r k) (D.like_is _ _) hok.1, hok.2⟩
     cases hx : H' b o with
     | none => rfl
     | some x =>
      rcases ha.fresh b o x hx with h3 | h3
      ·rw [hfree o (by rw [hrl]; exact ho)] at h3; cases h3
      ·have h0 : H b 0 = some (.int .i64 n) := by
        cases hrow with
        | slc _ _ _ _ _ _ _ h4 _ => have := h4 0 0 _ _ rfl rfl; simpa [D.val] using this
       have := (good_start hc E).lt h0
       omega
    ·cases heq
   ·cases heq
  ·cases heq
 ·trivial

theorem all2_loop {H : HV} {n r p dl kind : Int} {d s : D} {v : Bool} (hn : n ≤ 8) (w : World) :
  Runs Try.prog ⟨w, H⟩ (all2L n r p dl d s (.slc none 8 []) (.bool v) kind 0) (RetD w H fun ds => .dat ((ds 0).like (msgsTo n r kind))) := by
 refine runs_loop (fun q : D × Nat => all2L n r p dl d s q.1 (.bool v) kind q.2)
  (fun q => q.2 ≤ n.toNat ∧ q.1.Is Msg ∧ q.1.sz = 8 ∧ q.1.to Msg = (List.range q.2).map fun (i : Nat) => (⟨kind, n, (i : Int), r, 0, 0, [], []⟩ : Msg))
  (fun q => n.toNat - q.2) (fun _ => rfl) ?_ (.slc none 8 [], 0) ⟨Nat.zero_le _, is_nil _ _, rfl, rfl⟩
 intro ⟨out, i⟩ ⟨hi, hm, hs, hto⟩ ih
 simp only at hi hm hs hto
 apply exec_sound (noCtr _) 200
 rw [all2_go]
 have hml := D.Is.length (α := Msg) out
 rw [hto] at hml
 simp only [List.length_map, List.length_range] at hml
 refine ⟨fun hc hs' => ⟨⟨hs, .inr rfl, by simp only [len_slc, List.length_cons, List.length_nil]; omega, by simp only [len_slc, List.length_cons, List.length_nil]; omega⟩, fun hs1 => ?_⟩, fun hc => ?_⟩
 ·simp only [decide_eq_true_eq] at hc
  have hr := rows_app (rows_of hm) (msg_row' (m := ⟨kind, n, (i : Int), r, 0, 0, [], []⟩) rfl)
  obtain ⟨i1, i2⟩ := is_of (h := D.hd (hs1 0 0)) (s := 8) rfl hr
  have := ih (.slc (D.hd (hs1 0 0)) 8 (List.append (D.rows out) (D.rows (D.slc (D.hd (hs' 0 0)) 8 [[D.int IntKind.i64 kind, D.int IntKind.i64 n, D.int IntKind.i64 i, D.int IntKind.i64 r, D.int IntKind.i64 0, D.int IntKind.i64 0, D.slc none 0 [], D.slc none 0 []]]))), i + 1)
   ⟨by omega, i1, rfl, i2.trans (by rw [hto, range_snoc])⟩ (by simp only; omega)
  simp only at this
  rw [← wrap_succ (n := 9) (by omega) (by omega)] at this
  exact this
 ·simp only [decide_eq_false_iff_not] at hc
  have : i = n.toNat := by omega
  subst this
  exact ret_msgs' (stands_dat hm hto) rfl

theorem lawAll2 : Law Try.prog 51 ((rdCo.two rdInt).sp spAll2) := by
 refine law_in _ (by kernel_rfl) fun H w ⟨⟨n, r, p, dl, d, s, v⟩, k⟩ hok hp => ?_
 have hn : n ≤ 8 := hp _ (List.mem_singleton.2 rfl)
 apply exec_sound (noCtr _) 200
 rw [show (rdCo.two rdInt).canon (⟨n, r, p, dl, d, s, v⟩, k) = [.agg [.int .i64 n, .int .i64 r, .int .i64 p, .int .i64 dl, .dat d, .dat s, .bool v], .int .i64 k] from rfl, all2_in]
 exact vecTo 9 50 8 none 5 (all2L n r p dl d s (.slc none 8 []) (.bool v) k 0) (by kernel_rfl) (all2_loop hn w)

theorem ctBOk : Ctrs.Ok Try.prog ctB := by
 intro x hx
 simp only [ctB, List.mem_cons, List.not_mem_nil, or_false] at hx
 rcases hx with rfl | rfl | rfl | rfl | rfl | rfl | rfl | rfl | rfl
 ·exact ctrOf_ok lawCC1
 ·exact ctrOf_ok lawCC2
 ·exact ctrOf_ok (lawNew 19 (.inl rfl))
 ·exact ctrOf_ok (lawNew 20 (.inr rfl))
 ·exact ctrOf_ok lawSameInts
 ·exact pCtr_ok lawAll1
 ·exact ctrOf_ok lawAll2
 ·exact oCtr_ok lawClone1
 ·exact oCtr_ok lawClone2

theorem lawRes (f : FuncId) (hf : f = 21 ∨ f = 22) : Law Try.prog f (rdCo.one.sp spRes) := by
 rcases hf with rfl | rfl
 all_goals
  refine law_in _ (by kernel_rfl) fun H w ⟨n, r, p, dl, d, s, v⟩ hok hp => ?_
  obtain ⟨hd, hs⟩ := hp _ (List.mem_singleton.2 rfl)
  simp only at hd hs
  clear hp hok
  have hl := D.Is.length (α := Int) d
  apply exec_sound ctBOk 300
  rw [show rdCo.one.canon ⟨n, r, p, dl, d, s, v⟩ = [.agg [.int .i64 n, .int .i64 r, .int .i64 p, .int .i64 dl, .dat d, .dat s, .bool v]] from rfl]
  first | rw [res1_in] | rw [res2_in]
  simp only [CoD.co]
  refine ⟨⟨hd, hs⟩, fun hc => ret_intsB stands_nils lb_den ?_, fun hc => ⟨fun hv => ret_intsB stands_nils lb_den ?_, fun hv => ?_⟩⟩
  ·simp only [bne_iff_ne, ne_eq] at hc
   simp [resultCo, hc]
  ·simp only [Bool.not_eq_true'] at hv
   simp [resultCo, hv]
  ·simp only [bne_eq_false_iff_eq] at hc
   simp only [Bool.not_eq_false'] at hv
   subst hv
   have hz := checkCo_zero.1 hc
   first
    | exact ⟨⟨hd, by omega⟩, fun hs1 => ret_intsB (stands_rows rfl (rows_of hd)) lb_den (by simp [resultCo, hc])⟩
    | exact ret_intsB (stands_self hd) lb_den (by simp [resultCo, hc])

theorem lawStart (f : FuncId) (hf : f = 13 ∨ f = 14) : Law Try.prog f ((rdCo.three rdInt rdInt).sp spStart) := by
  rcases hf with rfl | rfl
  all_goals
    refine law_in _ (by kernel_rfl) fun H w ⟨⟨n, r, p, dl, d, s, v⟩, now, patience⟩ hok hp => ?_
    obtain ⟨hd, hs⟩ := hp _ (List.mem_singleton.2 rfl)
    simp only at hd hs
    clear hp hok
    apply exec_sound ctBOk 500
    rw [show (rdCo.three rdInt rdInt).canon (⟨n, r, p, dl, d, s, v⟩, now, patience) = [.agg [.int .i64 n, .int .i64 r, .int .i64 p, .int .i64 dl, .dat d, .dat s, .bool v], .int .i64 now, .int .i64 patience] from rfl]
    first | rw [start1_in] | rw [start2_in]
    simp only [CoD.co]
    refine ⟨⟨hd, hs⟩, fun hc => ret_co3 stands_nils stands_nils lb_den stands_nils ?_, fun hc => ?_⟩
    · simp only [bne_iff_ne, ne_eq] at hc
      have := (checkCo_or ⟨n, r, p, dl, d.to Int, s.to Bool, v⟩).resolve_left hc
      simp [startCo, this, zCo]
    simp only [bne_eq_false_iff_eq] at hc
    have hz := checkCo_zero.1 hc
    rw [newCo_eq hz.1]
    have hw : 0 ≤ now ∧ now ≤ 1073741824 → IntKind.i64.wrap (1073741824 - now) = 1073741824 - now := fun h => wrap64 (by omega) (by omega)
    have hw2 : IntKind.i64.wrap (r + 1) = r + 1 := wrap64 (by omega) (by omega)
    have hw3 : 0 ≤ now ∧ now ≤ 1073741824 ∧ 1 ≤ patience ∧ patience ≤ 1073741824 - now → IntKind.i64.wrap (now + patience) = now + patience := fun h => wrap64 (by omega) (by omega)
    rw [startCo_eq hc]
    rw [hw2]
    repeat' first
      | refine ⟨fun hc => ?_, fun hc => ?_⟩
      | refine fun (hs : Nat → Nat → D) => ?_
      | refine ⟨hz.1.2, ?_⟩
      | refine ret_co3 stands_nils stands_nils lb_den stands_nils ?_
      | refine ret_co3 stands_like stands_like (fun _ => rfl) stands_like ?_
      | fail
    all_goals
      clear hd hs
      simp only [decide_eq_true_eq, decide_eq_false_iff_not, bne_iff_ne, ne_eq, bne_eq_false_iff_eq, Bool.not_eq_true', Bool.not_eq_false', Decidable.not_not, ge_iff_le, gt_iff_lt, Bool.not_not] at *
      first
        | (rw [if_pos (by first | omega | (have := hw ⟨by omega, by omega⟩; omega))]; rfl)
        | (rw [if_neg (by first | omega | (have := hw ⟨by omega, by omega⟩; omega))]
           first
             | (rw [if_pos (by omega)]; rfl)
             | (rw [if_neg (by omega), if_pos (by omega)]; rfl)
             | (have h1 := hw ⟨by omega, by omega⟩
                rw [if_neg (by omega), if_neg (by omega), hw3 ⟨by omega, by omega, by omega, by omega⟩]))
        | (exfalso; omega)

theorem lawSameCo : Law Try.prog 15 ((rdCo.two rdCo).sp spSameCo) := by
 refine law_in _ (by kernel_rfl) fun H w ⟨⟨n, r, p, dl, d, s, v⟩, ⟨n', r', p', dl', d', s', v'⟩⟩ hok hp => ?_
 obtain ⟨hd, hs, hd', hs', hlen, hlen'⟩ := hp _ (List.mem_singleton.2 rfl)
 simp only at hd hs hd' hs' hlen hlen'
 clear hp hok
 have hl := D.Is.length (α := Int) d
 have hls := D.Is.length (α := Bool) s
 have hls' := D.Is.length (α := Bool) s'
 apply exec_sound ctBOk 500
 rw [show (rdCo.two rdCo).canon (⟨n, r, p, dl, d, s, v⟩, ⟨n', r', p', dl', d', s', v'⟩) = [.agg [.int .i64 n, .int .i64 r, .int .i64 p, .int .i64 dl, .dat d, .dat s, .bool v], .agg [.int .i64 n', .int .i64 r', .int .i64 p', .int .i64 dl', .dat d', .dat s', .bool v']] from rfl, sameco_in]
 simp only [CoD.co, Co.mk.injEq]
 refine ⟨fun h1 => ret_lb ?_, fun h1 => ⟨fun h2 => ret_lb ?_, fun h2 => ⟨fun h3 => ret_lb ?_, fun h3 => ⟨fun h4 => ret_lb ?_, fun h4 => ⟨fun h5 => ret_lb ?_, fun h5 => ⟨⟨hd, hd', hlen⟩, fun h6 => ret_lb ?_, fun h6 => ⟨fun h7 => ret_lb ?_, fun h7 => ?_⟩⟩⟩⟩⟩⟩⟩
 ·simp at h1; simp [h1]
 ·simp at h2; simp [h2]
 ·simp at h3; simp [h3]
 ·simp at h4; simp [h4]
 ·simp at h5; simp [h5]
 ·simp at h6; simp [h6]
 ·simp [hls, hls'] at h7
  symm
  simp only [decide_eq_false_iff_not]
  rintro ⟨_, _, _, _, _, h, _⟩
  exact h7 (by rw [h])
 ·simp only [bne_eq_false_iff_eq, Bool.not_eq_false', decide_eq_true_eq] at h1 h2 h3 h4 h5 h6 h7
  subst h1; subst h2; subst h3; subst h4; subst h5
  have h7 : (s.to Bool).length = (s'.to Bool).length := by omega
  refine runs_loop (fun j : Nat => samecoL n r p dl n r p dl d s d' s' v v j) (fun j => j ≤ (s.to Bool).length ∧ (s.to Bool).take j = (s'.to Bool).take j) (fun j => (s.to Bool).length - j) (fun _ => rfl) ?_ 0 ⟨Nat.zero_le _, by simp⟩
  intro j ⟨hj, hpre⟩ ih
  apply exec_sound ctBOk 500
  rw [sameco_go]
  refine ⟨fun hc => ?_, fun hc => ?_⟩
  ·simp [hls] at hc
   have hc' : j < (s'.to Bool).length := by omega
   obtain ⟨c1, c2, c3⟩ := bool_at hs hc
   obtain ⟨d1, d2, d3⟩ := bool_at hs' hc'
   rw [c3, d3]
   refine fun _ => ⟨c1, c2, d1, d2, fun hx => ret_lb ?_, fun hx => ?_⟩
   ·simp only [Bool.not_eq_true', decide_eq_false_iff_not] at hx
    simp [ne_of_take' hc hc' hx]
   ·simp only [Bool.not_eq_false', decide_eq_true_eq] at hx
    have := ih (j + 1) ⟨hc, (take_eq' hc hc').2 ⟨hpre, hx⟩⟩ (by omega)
    rw [← wrap_succ hc (by omega)] at this
    exact this
  ·simp [hls] at hc
   refine ret_lb ?_
   rw [List.take_of_length_le (by omega), List.take_of_length_le (by omega)] at hpre
   simp [hpre, h6]

theorem isBytes_of' {d : D} (h : d.Is Byte) : d.IsBytes := by
 obtain ⟨a, b, c, rfl, hz, h2⟩ := h
 unfold D.IsBytes
 simp only [rows_slc]
 clear hz
 induction c with
 | nil => exact ⟨[], rfl⟩
 | cons x r ih =>
  obtain ⟨ns, hns⟩ := ih (fun y hy => h2 y (List.mem_cons_of_mem _ hy))
  obtain ⟨n, hn⟩ := h2 x List.mem_cons_self
  exact ⟨n :: ns, by rw [hn, hns]; rfl⟩

theorem bytes_nil' {d : D} (h : d.Is Byte) (h' : d.to Byte = []) : d.bytesOf = ByteArray.empty := by
 obtain ⟨a, b, c, rfl, _, h2⟩ := h
 have : c = [] := by simpa [D.to] using h'
 subst this
 rfl

theorem lawSameMsgs : Law Try.prog 16 ((rdD.two rdD).sp spSameMsgs3) := by
 refine law_in _ (by kernel_rfl) fun H w ⟨a, b⟩ hok hp => ?_
 obtain ⟨ha, hb, hlen, hpl, hpl'⟩ := hp _ (List.mem_singleton.2 rfl)
 simp only at ha hb hlen hpl hpl'
 clear hp hok
 have hla := D.Is.length (α := Msg) a
 have hlb := D.Is.length (α := Msg) b
 rw [hla] at hlen
 apply exec_sound ctBOk 500
 rw [show (rdD.two rdD).canon (a, b) = [.dat a, .dat b] from rfl, samems_in]
 refine ⟨fun h1 => ret_lb ?_, fun h1 => ?_⟩
 ·simp [hla, hlb] at h1
  symm
  simp only [decide_eq_false_iff_not]
  intro h
  exact h1 (by rw [h])
 simp only [bne_eq_false_iff_eq] at h1
 have h1 : (a.to Msg).length = (b.to Msg).length := by omega
 refine runs_loop (fun j : Nat => samemsL a b j) (fun j => j ≤ (a.to Msg).length ∧ (a.to Msg).take j = (b.to Msg).take j) (fun j => (a.to Msg).length - j) (fun _ => rfl) ?_ 0 ⟨Nat.zero_le _, by simp⟩
 intro j ⟨hj, hpre⟩ ih
 apply exec_sound ctBOk 500
 rw [samems_go]
 refine ⟨fun hc hs => ?_, fun hc => ?_⟩
 ·simp [hla] at hc
  have hc' : j < (b.to Msg).length := by omega
  obtain ⟨q0, q1, q2, q3, q4, q5, q6, q7, q8, q9, q10⟩ := msg_cell ha hc
  obtain ⟨z0, z1, z2, z3, z4, z5, z6, z7, z8, z9, z10⟩ := msg_cell hb hc'
  obtain ⟨p1, p2⟩ := hpl _ (List.getElem_mem hc)
  have p1' := hpl' _ (List.getElem_mem hc')
  have b1 := bytes_nil' q9 (q10.trans p1)
  have b2 := bytes_nil' z9 (z10.trans p1')
  have ej : Int.toNat (j : Int) = j := by simp
  rw [ej]
  have sza : a.sz = 8 := ha.size hc
  have szb : b.sz = 8 := hb.size hc'
  rw [b1, b2, q1, q2, q3, q4, q5, q6, q8, z1, z2, z3, z4, z5, z6, z8]
  have no : ∀ {x : Prop}, (x → False) → ((a.to Msg)[j] = (b.to Msg)[j] → x) → (a.to Msg) ≠ b.to Msg := fun h1 h2 h3 => h1 (h2 (by simp only [h3]))
  refine ⟨⟨by omega, by omega, sza⟩, q0, ⟨by omega, by omega, szb⟩, z0, fun h => ret_lb ?_, fun e1 => ⟨fun h => ret_lb ?_, fun e2 => ⟨fun h => ret_lb ?_, fun e3 => ⟨fun h => ret_lb ?_, fun e4 => ⟨fun h => ret_lb ?_, fun e5 => ⟨fun h => ret_lb ?_, fun e6 =>
   ⟨⟨q7, z7, ?_⟩, fun h => ret_lb ?_, fun e7 => ⟨isBytes_of' q9, isBytes_of' z9, fun h => ?_, fun _ => ?_⟩⟩⟩⟩⟩⟩⟩⟩
  ·simp only [bne_iff_ne, ne_eq] at h; symm; simp only [decide_eq_false_iff_not]; exact no h fun h => by rw [h]
  ·simp only [bne_iff_ne, ne_eq] at h; symm; simp only [decide_eq_false_iff_not]; exact no h fun h => by rw [h]
  ·simp only [bne_iff_ne, ne_eq] at h; symm; simp only [decide_eq_false_iff_not]; exact no h fun h => by rw [h]
  ·simp only [bne_iff_ne, ne_eq] at h; symm; simp only [decide_eq_false_iff_not]; exact no h fun h => by rw [h]
  ·simp only [bne_iff_ne, ne_eq] at h; symm; simp only [decide_eq_false_iff_not]; exact no h fun h => by rw [h]
  ·simp only [bne_iff_ne, ne_eq] at h; symm; simp only [decide_eq_false_iff_not]; exact no h fun h => by rw [h]
  ·have := D.Is.length (α := Int) (a.cell j 6)
   rw [q8, p2] at this
   rw [this]; simp
  ·simp only [Bool.not_eq_true', decide_eq_false_iff_not] at h; symm; simp only [decide_eq_false_iff_not]; exact no h fun h => by rw [h]
  ·exfalso
   have : List.beq (ByteArray.toList ByteArray.empty) (ByteArray.toList ByteArray.empty) = true := by
    show (ByteArray.toList ByteArray.empty == ByteArray.toList ByteArray.empty) = true
    simp
   rw [this] at h
   cases h
  ·simp only [bne_eq_false_iff_eq, Bool.not_eq_false', decide_eq_true_eq] at e1 e2 e3 e4 e5 e6 e7
   have hx : (a.to Msg)[j] = (b.to Msg)[j] := by
    rcases hA : (a.to Msg)[j] with ⟨x1, x2, x3, x4, x5, x6, x7, x8⟩
    rcases hB : (b.to Msg)[j] with ⟨y1, y2, y3, y4, y5, y6, y7, y8⟩
    rw [hA] at e1 e2 e3 e4 e5 e6 e7 p1
    rw [hB] at e1 e2 e3 e4 e5 e6 e7 p1'
    simp only at e1 e2 e3 e4 e5 e6 e7 p1 p1'
    rw [e1, e2, e3, e4, e5, e6, e7, p1, p1']
   have := ih (j + 1) ⟨hc, (take_eq' hc hc').2 ⟨hpre, hx⟩⟩ (by omega)
   rw [← wrap_succ hc (by omega)] at this
   exact this
 ·simp [hla] at hc
  refine ret_lb ?_
  rw [List.take_of_length_le (by omega), List.take_of_length_le (by omega)] at hpre
  simp [hpre]
end Go.Proofs.Ytoechplbhbalaaa
end
section
open Go Go.Proofs Sx
namespace Go.Proofs.Ytoechplbhbalaaa
set_option maxRecDepth 100000
set_option maxHeartbeats 0
noncomputable def ixL (d : D) (n j : Int) : Conf := Conf.mk (SFrm.mk 71 none none [Item.inLoop (cAt Try.prog 71 [1, 0, 1, 0, 0]), Item.inBlock 0, Item.code (cAt Try.prog 71 [1, 1])]
 (mkJ 0 [(0, .dat d), (1, .int .i64 n), (7, .int .i64 d.len), (8, .int .i64 j)] 0 19)) [] []
noncomputable def hasL (d : D) (n j : Int) : Conf := Conf.mk (SFrm.mk 73 none none [Item.inLoop (cAt Try.prog 73 [1, 0, 1, 0, 0]), Item.inBlock 0, Item.code (cAt Try.prog 73 [1, 1])]
 (mkJ 0 [(0, .dat d), (1, .int .i64 n), (5, .int .i64 j)] 0 18)) [] []
noncomputable def everyL (d : D) (j : Int) : Conf := Conf.mk (SFrm.mk 64 none none [Item.inLoop (cAt Try.prog 64 [1, 0, 1, 0, 0]), Item.inBlock 0, Item.code (cAt Try.prog 64 [1, 1])]
 (mkJ 0 [(0, .dat d), (3, .int .i64 j)] 0 15)) [] []
noncomputable def cm1aL (mr mp mt mi mu : Int) (f : Bool) (wt hd : D) (j : Int) : Conf := Conf.mk (SFrm.mk 38 none none [Item.inLoop (cAt Try.prog 38 [1, 1, 0, 1, 0, 0]), Item.inBlock 1, Item.code (cAt Try.prog 38 [1, 1, 1])]
 (mkJ 0 [(1, .ptr 0 0), (46, .dat wt), (47, .int .i64 wt.len), (48, .int .i64 j)] 0 107)) [] [(0, .cells 28 [.int .i64 mr, .int .i64 mp, .int .i64 mt, .int .i64 mi, .bool f, .int .i64 mu, .dat wt, .dat hd])]
noncomputable def cm1bL (mr mp mt mi mu : Int) (f : Bool) (wt hd : D) (j : Int) : Conf := Conf.mk (SFrm.mk 38 none none [Item.inLoop (cAt Try.prog 38 [1, 1, 1, 0, 1, 0, 0]), Item.inBlock 3, Item.code (cAt Try.prog 38 [1, 1, 1, 1])]
 (mkJ 0 [(1, .ptr 0 0), (77, .dat hd), (78, .int .i64 hd.len), (79, .int .i64 j)] 0 107)) [] [(0, .cells 28 [.int .i64 mr, .int .i64 mp, .int .i64 mt, .int .i64 mi, .bool f, .int .i64 mu, .dat wt, .dat hd])]
noncomputable def cm2aL (mr mp mt mi mu : Int) (f : Bool) (wt hd : D) (j : Int) : Conf := Conf.mk (SFrm.mk 39 none none [Item.inLoop (cAt Try.prog 39 [1, 1, 1, 0, 1, 0, 0]), Item.inBlock 0, Item.code (cAt Try.prog 39 [1, 1, 1, 1])]
 (mkJ 0 [(1, .ptr 0 0), (3, .int .i64 j)] 0 147)) [] [(0, .cells 28 [.int .i64 mr, .int .i64 mp, .int .i64 mt, .int .i64 mi, .bool f, .int .i64 mu, .dat wt, .dat hd])]
noncomputable def cm2bL (mr mp mt mi mu : Int) (f : Bool) (wt hd : D) (j : Int) : Conf := Conf.mk (SFrm.mk 39 none none [Item.inLoop (cAt Try.prog 39 [1, 1, 1, 1, 0, 1, 0, 0]), Item.inBlock 2, Item.code (cAt Try.prog 39 [1, 1, 1, 1, 1])]
 (mkJ 0 [(1, .ptr 0 0), (4, .int .i64 j)] 0 147)) [] [(0, .cells 28 [.int .i64 mr, .int .i64 mp, .int .i64 mt, .int .i64 mi, .bool f, .int .i64 mu, .dat wt, .dat hd])]
noncomputable def ctH : Ctrs := [(34, ctrOf ((rdD.two rdInt).sp spHas21)), (73, ctrOf ((rdD.two rdInt).sp spHas21))]
section
variable (n j now patience kind value : Int) (a b d s wt hd wt' hd' : D) (frozen frozen' : Bool) (mr mp mt mi mu mr' mp' mt' mi' mu' : Int) (mk mf mto mn mv me : Int) (ml mb : D) (nodes round phase deadline : Int) (valid : Bool)
theorem ix_in : exec Try.prog [] 200 (entry Try.prog 71 [.dat d, .int .i64 n]) =
 Tree.leaf
 (Conf.mk
 (SFrm.mk 71 none none
 [Item.inLoop (cAt Try.prog 71 [1, 0, 1, 0, 0]), Item.inBlock 0, Item.code (cAt Try.prog 71 [1, 1])]
 (mkJ 0
 [(0, .dat d), (1, .int .i64 n), (7, .int .i64 (↑(D.len d) : Int)),
 (8, .int .i64 0)]
 0 19))
 [] []) := by kernel_rfl

theorem ct_in : exec Try.prog [(71, ctrOf ((rdD.two rdInt).sp spIdx21))] 200 (entry Try.prog 34 [.dat d, .int .i64 n]) =
 Tree.need (D.Is Int d ∧ D.len d ≤ 1048576)
 (.ret (.bool (decide ((idxP (D.to Int d) fun y => decide (n = y)) ≥ 0)))) := by kernel_rfl

theorem has_in : exec Try.prog [] 200 (entry Try.prog 73 [.dat d, .int .i64 n]) =
 Tree.leaf
 (Conf.mk
 (SFrm.mk 73 none none
 [Item.inLoop (cAt Try.prog 73 [1, 0, 1, 0, 0]), Item.inBlock 0, Item.code (cAt Try.prog 73 [1, 1])]
 (mkJ 0 [(0, .dat d), (1, .int .i64 n), (5, .int .i64 0)] 0 18))
 [] []) := by kernel_rfl

theorem every_in : exec Try.prog [] 200 (entry Try.prog 64 [.dat d]) =
 Tree.leaf
 (Conf.mk
 (SFrm.mk 64 none none
 [Item.inLoop (cAt Try.prog 64 [1, 0, 1, 0, 0]), Item.inBlock 0, Item.code (cAt Try.prog 64 [1, 1])]
 (mkJ 0 [(0, .dat d), (3, .int .i64 0)] 0 15))
 [] []) := by kernel_rfl

theorem ans_in : exec Try.prog [] 200 (entry Try.prog 58 [.agg [.int .i64 mk, .int .i64 mf, .int .i64 mto, .int .i64 mn, .int .i64 mv, .int .i64 me, .dat ml, .dat mb], .int .i64 kind, .int .i64 value]) =
 Tree.all fun hs =>
 .ret
 (.dat
 (D.slc (D.hd (hs 0 0)) 8
 [[D.int .i64 kind, D.int .i64 mto, D.int .i64 mf, D.int .i64 mn,
 D.int .i64 value, D.int .i64 0, D.slc none 0 [], D.slc none 0 []]])) := by kernel_rfl

theorem thaw_in : exec Try.prog [] 200 (entry Try.prog 60 [.agg [.int .i64 mr, .int .i64 mp, .int .i64 mt, .int .i64 mi, .bool frozen, .int .i64 mu, .dat wt, .dat hd]]) =
 Tree.ret
 (SV.tup
 [.agg
 [.int .i64 mr, .int .i64 mp, .int .i64 mt, .int .i64 mi, .lb false,
 .int .i64 mu, .dat wt, .nils],
 .dat hd]) := by kernel_rfl

theorem end_in : exec Try.prog [(58, ctrOf ((rdMsg.three rdInt rdInt).sp spAns)), (60, ctrOf (rdMb.one.sp spThaw))] 200 (entry Try.prog 59 [.agg [.int .i64 mr, .int .i64 mp, .int .i64 mt, .int .i64 mi, .bool frozen, .int .i64 mu, .dat wt, .dat hd], .int .i64 now, .agg [.int .i64 mk, .int .i64 mf, .int .i64 mto, .int .i64 mn, .int .i64 mv, .int .i64 me, .dat ml, .dat mb]]) =
 Tree.br (!frozen)
 (.br (decide (mt = mr))
 (.all fun hs =>
 .ret
 (SV.tup
 [.agg
 [.int .i64 mr, .int .i64 mp, .int .i64 mt, .int .i64 mi,
 .bool frozen, .int .i64 mu, .dat wt, .dat hd],
 .nils, .dat (D.like (hs 2 0) (ansTo (MsgD.msg (MsgD.mk mk mf mto mn mv me ml mb)) 4 1))]))
 (.all fun hs =>
 .ret
 (SV.tup
 [.agg
 [.int .i64 mr, .int .i64 mp, .int .i64 mt, .int .i64 mi,
 .bool frozen, .int .i64 mu, .dat wt, .dat hd],
 .nils, .dat (D.like (hs 2 0) (ansTo (MsgD.msg (MsgD.mk mk mf mto mn mv me ml mb)) 4 0))])))
 (.br (decide (now < mu))
 (.all fun hs =>
 .need (MbD.Right (MbD.mk mr mp mr mi frozen mu wt hd))
 (.all fun hs =>
 .all fun hs_1 =>
 .ret
 (SV.tup
 [.agg
 [.int .i64 mr, .int .i64 mp, .int .i64 mr, .int .i64 mi,
 .bool false, .int .i64 mu, .dat (D.like (hs 0 0) (D.to Int wt)),
 .dat (D.like (hs 0 1) ([] : List Int))],
 .dat (D.like (hs 0 2) (D.to Int hd)),
 .dat (D.like (hs_1 4 0) (ansTo (MsgD.msg (MsgD.mk mk mf mto mn mv me ml mb)) 4 1))])))
 (.need (MbD.Right (MbD.mk mr mp mt mi frozen mu wt hd))
 (.all fun hs =>
 .all fun hs_1 =>
 .ret
 (SV.tup
 [.agg
 [.int .i64 mr, .int .i64 mp, .int .i64 mt, .int .i64 mi,
 .bool false, .int .i64 mu, .dat (D.like (hs 0 0) (D.to Int wt)),
 .dat (D.like (hs 0 1) ([] : List Int))],
 .dat (D.like (hs 0 2) (D.to Int hd)),
 .dat (D.like (hs_1 4 0) (ansTo (MsgD.msg (MsgD.mk mk mf mto mn mv me ml mb)) 4 0))])))) := by kernel_rfl

theorem give_in : exec Try.prog [(51, ctrOf ((rdCo.two rdInt).sp spAll2))] 200 (entry Try.prog 65 [.agg [.int .i64 nodes, .int .i64 round, .int .i64 phase, .int .i64 deadline, .dat d, .dat s, .bool valid]]) =
 Tree.all fun hs =>
 .need (nodes ≤ 8)
 (.ret
 (SV.tup
 [.agg
 [.int .i64 nodes, .int .i64 round, .int .i64 0, .int .i64 deadline,
 .dat d, .dat s, .lb false],
 .dat (D.like (hs 2 0) (msgsTo nodes round 24))])) := by kernel_rfl

theorem samemb_in : exec Try.prog ctB 300 (entry Try.prog 26 [.agg [.int .i64 mr, .int .i64 mp, .int .i64 mt, .int .i64 mi, .bool frozen, .int .i64 mu, .dat wt, .dat hd], .agg [.int .i64 mr', .int .i64 mp', .int .i64 mt', .int .i64 mi', .bool frozen', .int .i64 mu', .dat wt', .dat hd']]) =
 Tree.br (decide (mr = mr'))
 (.br (decide (mp = mp'))
 (.br (decide (mt = mt'))
 (.br (decide (mi = mi'))
 (.br (decide (frozen = frozen'))
 (.br (decide (mu = mu'))
 (.need (D.Is Int wt ∧ D.Is Int wt' ∧ D.len wt ≤ 1048576)
 (.br (decide (D.to Int wt = D.to Int wt'))
 (.need (D.Is Int hd ∧ D.Is Int hd' ∧ D.len hd ≤ 1048576)
 (.ret (.bool (decide (D.to Int hd = D.to Int hd')))))
 (.ret (.lb false))))
 (.ret (.lb false)))
 (.ret (.lb false)))
 (.ret (.lb false)))
 (.ret (.lb false)))
 (.ret (.lb false)))
 (.ret (.lb false)) := by kernel_rfl

theorem ix_go : exec Try.prog [] 200 (unroll (ixL d n j)) =
 Tree.br (decide (j < (↑(D.len d) : Int)))
 (.need (0 ≤ j ∧ j < (↑(D.len d) : Int) ∧ D.sz d = 1)
 (.need (D.HasCell d (Int.toNat j) 0 (FT.int .i64))
 (.br (decide (n = D.getInt d (Int.toNat j) 0)) (.ret (.int .i64 j))
 (.leaf
 (Conf.mk
 (SFrm.mk 71 none none
 [Item.inLoop (cAt Try.prog 71 [1, 0, 1, 0, 0]), Item.inBlock 0, Item.code (cAt Try.prog 71 [1, 1])]
 (mkJ 0
 [(0, .dat d), (1, .int .i64 n), (7, .int .i64 (↑(D.len d) : Int)),
 (8, .int .i64 (IntKind.wrap .i64 (j + 1)))]
 0 19))
 [] [])))))
 (.ret (.int .i64 (Int.neg 1))) := by kernel_rfl

theorem has_go : exec Try.prog [] 200 (unroll (hasL d n j)) =
 Tree.br (decide (j < (↑(D.len d) : Int)))
 (.need (0 ≤ j ∧ j < (↑(D.len d) : Int) ∧ D.sz d = 1)
 (.need (D.HasCell d (Int.toNat j) 0 (FT.int .i64))
 (.br (decide (D.getInt d (Int.toNat j) 0 = n)) (.ret (.lb true))
 (.leaf
 (Conf.mk
 (SFrm.mk 73 none none
 [Item.inLoop (cAt Try.prog 73 [1, 0, 1, 0, 0]), Item.inBlock 0, Item.code (cAt Try.prog 73 [1, 1])]
 (mkJ 0
 [(0, .dat d), (1, .int .i64 n), (5, .int .i64 (IntKind.wrap .i64 (j + 1)))] 0
 18))
 [] [])))))
 (.ret (.lb false)) := by kernel_rfl

theorem every_go : exec Try.prog [] 200 (unroll (everyL d j)) =
 Tree.br (decide (j < (↑(D.len d) : Int)))
 (.need (0 ≤ j ∧ j < (↑(D.len d) : Int) ∧ D.sz d = 1)
 (.need (D.HasCell d (Int.toNat j) 0 FT.bool)
 (.br (!D.getBool d (Int.toNat j) 0) (.ret (.lb false))
 (.leaf
 (Conf.mk
 (SFrm.mk 64 none none
 [Item.inLoop (cAt Try.prog 64 [1, 0, 1, 0, 0]), Item.inBlock 0, Item.code (cAt Try.prog 64 [1, 1])]
 (mkJ 0 [(0, .dat d), (3, .int .i64 (IntKind.wrap .i64 (j + 1)))] 0 15))
 [] [])))))
 (.ret (.lb true)) := by kernel_rfl

theorem cm1_in : 
 let z1 : Tree := (.leaf (Conf.mk (SFrm.mk 38 none none [Item.inLoop (cAt Try.prog 38 [1, 1, 0, 1, 0, 0]), Item.inBlock 1, Item.code (cAt Try.prog 38 [1, 1, 1])] (mkJ 0 [(1, .ptr 0 0), (46, .dat wt), (47, .int .i64 (↑(D.len wt) : Int)), (48, .int .i64 0)] 0 107)) [] [(0, OBlk.cells 28 [.int .i64 mr, .int .i64 mp, .int .i64 mt, .int .i64 mi, .bool frozen, .int .i64 mu, .dat wt, .dat hd])]))
 let z2 : Tree := (.br (decide (mp < 0)) (.br (decide (mp < 0)) (.ret (.int .i64 3)) z1) (.br (decide (mp > mi)) (.br (decide (mp > mi)) (.ret (.int .i64 3)) z1) (.br (decide (mi > 4096)) (.br (decide (mi > 4096)) (.ret (.int .i64 3)) z1) (.br (!frozen) (.br (decide ((↑(D.len hd) : Int) > 0)) (.ret (.int .i64 3)) z1) z1))))
 exec Try.prog ctH 400 (entry Try.prog 38 [.agg [.int .i64 mr, .int .i64 mp, .int .i64 mt, .int .i64 mi, .bool frozen, .int .i64 mu, .dat wt, .dat hd]]) =
 Tree.br (decide (mr ≥ 0)) (.br (!decide (mr ≤ 1073741824)) (.br (!decide (mr ≤ 1073741824)) (.ret (.int .i64 3)) z2) (.br (decide (mu ≥ 0)) (.br (!decide (mu ≤ 1073741824)) (.br (!decide (mu ≤ 1073741824))
 (.ret (.int .i64 3)) z2) (.br (decide (mt < 0)) (.br (decide (mt < 0)) (.ret (.int .i64 3)) z2) (.br (decide (mt > mr)) (.ret (.int .i64 3)) z2))) (.ret (.int .i64 3)))) (.ret (.int .i64 3)) := by
 intros; kernel_rfl

theorem cm2_in : exec Try.prog ctH 400 (entry Try.prog 39 [.agg [.int .i64 mr, .int .i64 mp, .int .i64 mt, .int .i64 mi, .bool frozen, .int .i64 mu, .dat wt, .dat hd]]) =
 Tree.br (decide (mr < 0)) (.ret (.int .i64 3))
 (.br (decide (mr > 1073741824)) (.ret (.int .i64 3))
 (.br (decide (mu < 0)) (.ret (.int .i64 3))
 (.br (decide (mu > 1073741824)) (.ret (.int .i64 3))
 (.br (decide (mt < 0)) (.ret (.int .i64 3))
 (.br (decide (mt > mr)) (.ret (.int .i64 3))
 (.br (decide (mp < 0)) (.ret (.int .i64 3))
 (.br (decide (mp > mi)) (.ret (.int .i64 3))
 (.br (decide (mi > 4096)) (.ret (.int .i64 3))
 (.br (!frozen)
 (.br (decide ((↑(D.len hd) : Int) > 0)) (.ret (.int .i64 3))
 (.leaf
 (Conf.mk
 (SFrm.mk 39 none none
 [Item.inLoop (cAt Try.prog 39 [1, 1, 1, 0, 1, 0, 0]), Item.inBlock 0,
 Item.code (cAt Try.prog 39 [1, 1, 1, 1])]
 (mkJ 0 [(1, .ptr 0 0), (3, .int .i64 0)] 0 147))
 []
 [(0,
 OBlk.cells 28
 [.int .i64 mr, .int .i64 mp, .int .i64 mt,
 .int .i64 mi, .bool frozen, .int .i64 mu, .dat wt,
 .dat hd])])))
 (.leaf
 (Conf.mk
 (SFrm.mk 39 none none
 [Item.inLoop (cAt Try.prog 39 [1, 1, 1, 0, 1, 0, 0]), Item.inBlock 0,
 Item.code (cAt Try.prog 39 [1, 1, 1, 1])]
 (mkJ 0 [(1, .ptr 0 0), (3, .int .i64 0)] 0 147))
 []
 [(0,
 OBlk.cells 28
 [.int .i64 mr, .int .i64 mp, .int .i64 mt,
 .int .i64 mi, .bool frozen, .int .i64 mu, .dat wt,
 .dat hd])]))))))))))) := by kernel_rfl

theorem cm1a_go : exec Try.prog ctH 400 (unroll (cm1aL mr mp mt mi mu frozen wt hd j)) =
 Tree.br (decide (j < (↑(D.len wt) : Int)))
 (.need (0 ≤ j ∧ j < (↑(D.len wt) : Int) ∧ D.sz wt = 1)
 (.need (D.HasCell wt (Int.toNat j) 0 (FT.int .i64))
 (.br (decide (D.getInt wt (Int.toNat j) 0 < 0)) (.ret (.int .i64 3))
 (.br (decide (D.getInt wt (Int.toNat j) 0 ≥ mi)) (.ret (.int .i64 3))
 (.br (decide (j > 0))
 (.need
 (0 ≤ IntKind.wrap .i64 (j - 1) ∧
 IntKind.wrap .i64 (j - 1) < (↑(D.len wt) : Int) ∧ D.sz wt = 1)
 (.need (D.HasCell wt (Int.toNat (IntKind.wrap .i64 (j - 1))) 0 (FT.int .i64))
 (.br
 (decide (D.getInt wt (Int.toNat j) 0 ≤ D.getInt wt (Int.toNat (IntKind.wrap .i64 (j - 1))) 0))
 (.ret (.int .i64 3))
 (.leaf
 (Conf.mk
 (SFrm.mk 38 none none
 [Item.inLoop (cAt Try.prog 38 [1, 1, 0, 1, 0, 0]), Item.inBlock 1,
 Item.code (cAt Try.prog 38 [1, 1, 1])]
 (mkJ 0
 [(1, .ptr 0 0), (46, .dat wt), (47, .int .i64 (↑(D.len wt) : Int)),
 (48, .int .i64 (IntKind.wrap .i64 (j + 1)))]
 0 107))
 []
 [(0,
 OBlk.cells 28
 [.int .i64 mr, .int .i64 mp, .int .i64 mt, .int .i64 mi,
 .bool frozen, .int .i64 mu, .dat wt, .dat hd])])))))
 (.leaf
 (Conf.mk
 (SFrm.mk 38 none none
 [Item.inLoop (cAt Try.prog 38 [1, 1, 0, 1, 0, 0]), Item.inBlock 1,
 Item.code (cAt Try.prog 38 [1, 1, 1])]
 (mkJ 0
 [(1, .ptr 0 0), (46, .dat wt), (47, .int .i64 (↑(D.len wt) : Int)),
 (48, .int .i64 (IntKind.wrap .i64 (j + 1)))]
 0 107))
 []
 [(0,
 OBlk.cells 28
 [.int .i64 mr, .int .i64 mp, .int .i64 mt, .int .i64 mi,
 .bool frozen, .int .i64 mu, .dat wt, .dat hd])])))))))
 (.leaf
 (Conf.mk
 (SFrm.mk 38 none none
 [Item.inLoop (cAt Try.prog 38 [1, 1, 1, 0, 1, 0, 0]), Item.inBlock 3, Item.code (cAt Try.prog 38 [1, 1, 1, 1])]
 (mkJ 0
 [(1, .ptr 0 0), (77, .dat hd), (78, .int .i64 (↑(D.len hd) : Int)), (79, .int .i64 0)] 0
 107))
 []
 [(0,
 OBlk.cells 28
 [.int .i64 mr, .int .i64 mp, .int .i64 mt, .int .i64 mi, .bool frozen,
 .int .i64 mu, .dat wt, .dat hd])])) := by kernel_rfl

theorem cm1b_go : exec Try.prog ctH 400 (unroll (cm1bL mr mp mt mi mu frozen wt hd j)) =
 Tree.br (decide (j < (↑(D.len hd) : Int)))
 (.need (0 ≤ j ∧ j < (↑(D.len hd) : Int) ∧ D.sz hd = 1)
 (.need (D.HasCell hd (Int.toNat j) 0 (FT.int .i64))
 (.br (decide (D.getInt hd (Int.toNat j) 0 < 0)) (.ret (.int .i64 3))
 (.br (decide (D.getInt hd (Int.toNat j) 0 ≥ mi)) (.ret (.int .i64 3))
 (.need (0 ≤ (↑0 : Int) ∧ (↑0 : Int) ≤ j ∧ j ≤ (↑(D.len hd) : Int) ∧ D.Fits hd 1)
 (.need (D.Is Int (D.sub hd 0 (Int.toNat j)) ∧ D.len (D.sub hd 0 (Int.toNat j)) ≤ 1048576)
 (.br (List.contains (D.to Int (D.sub hd 0 (Int.toNat j))) (D.getInt hd (Int.toNat j) 0))
 (.ret (.int .i64 3))
 (.need (D.Is Int wt ∧ D.len wt ≤ 1048576)
 (.br (List.contains (D.to Int wt) (D.getInt hd (Int.toNat j) 0)) (.ret (.int .i64 3))
 (.leaf
 (Conf.mk
 (SFrm.mk 38 none none
 [Item.inLoop (cAt Try.prog 38 [1, 1, 1, 0, 1, 0, 0]), Item.inBlock 3,
 Item.code (cAt Try.prog 38 [1, 1, 1, 1])]
 (mkJ 0
 [(1, .ptr 0 0), (77, .dat hd), (78, .int .i64 (↑(D.len hd) : Int)),
 (79, .int .i64 (IntKind.wrap .i64 (j + 1)))]
 0 107))
 []
 [(0,
 OBlk.cells 28
 [.int .i64 mr, .int .i64 mp, .int .i64 mt,
 .int .i64 mi, .bool frozen, .int .i64 mu, .dat wt,
 .dat hd])])))))))))))
 (.ret (.int .i64 0)) := by kernel_rfl

theorem cm2a_go : 
 let z1 : Tree := (.leaf (Conf.mk (SFrm.mk 39 none none [Item.inLoop (cAt Try.prog 39 [1, 1, 1, 0, 1, 0, 0]), Item.inBlock 0, Item.code (cAt Try.prog 39 [1, 1, 1, 1])] (mkJ 0 [(1, .ptr 0 0), (3, .int .i64 (IntKind.wrap .i64 (j + 1)))] 0 147)) [] [(0, OBlk.cells 28 [.int .i64 mr, .int .i64 mp, .int .i64 mt, .int .i64 mi, .bool frozen, .int .i64 mu, .dat wt, .dat hd])]))
 exec Try.prog ctH 400 (unroll (cm2aL mr mp mt mi mu frozen wt hd j)) =
 Tree.br (decide (j < (↑(D.len wt) : Int))) (.all fun hs => .br (decide (D.getInt wt (Int.toNat j) 0 < 0)) (.need (0 ≤ j ∧ j < (↑(D.len wt) : Int) ∧ D.sz wt = 1) (.need (D.HasCell wt (Int.toNat j) 0 (FT.int .i64))
 (.need (decide (D.getInt wt (Int.toNat j) 0 < 0) = true) (.need (decide (D.getInt wt (Int.toNat j) 0 < 0) = true) (.need (decide (D.getInt wt (Int.toNat j) 0 < 0) = true) (.need (decide (D.getInt wt (Int.toNat j) 0 < 0) = true)
 (.need (decide (D.getInt wt (Int.toNat j) 0 < 0) = true) (.need (decide (D.getInt wt (Int.toNat j) 0 < 0) = true) (.need (decide (D.getInt wt (Int.toNat j) 0 < 0) = true) (.need (decide (D.getInt wt (Int.toNat j) 0 < 0) = true)
 (.need (decide (D.getInt wt (Int.toNat j) 0 < 0) = true) (.ret (.int .i64 3))))))))))))) (.br (decide (D.getInt wt (Int.toNat j) 0 ≥ mi)) (.need (0 ≤ j ∧ j < (↑(D.len wt) : Int) ∧ D.sz wt = 1) (.need (D.HasCell wt
 (Int.toNat j) 0 (FT.int .i64)) (.need (decide (D.getInt wt (Int.toNat j) 0 < 0) = false) (.need (decide (D.getInt wt (Int.toNat j) 0 < 0) = false) (.need (decide (D.getInt wt (Int.toNat j) 0 < 0) = false)
 (.need (decide (D.getInt wt (Int.toNat j) 0 < 0) = false) (.need (0 ≤ j ∧ j < (↑(D.len wt) : Int) ∧ D.sz wt = 1) (.need (decide (D.getInt wt (Int.toNat j) 0 < 0) = false) (.need (D.HasCell wt (Int.toNat j) 0
 (FT.int .i64)) (.need (decide (D.getInt wt (Int.toNat j) 0 < 0) = false) (.need (decide (D.getInt wt (Int.toNat j) 0 < 0) = false) (.need (decide (D.getInt wt (Int.toNat j) 0 < 0) = false) (.need (decide
 (D.getInt wt (Int.toNat j) 0 < 0) = false) (.need (decide (D.getInt wt (Int.toNat j) 0 ≥ mi) = true) (.need (decide (D.getInt wt (Int.toNat j) 0 ≥ mi) = true) (.need (decide (D.getInt wt (Int.toNat j) 0 ≥ mi) = true)
 (.need (decide (D.getInt wt (Int.toNat j) 0 ≥ mi) = true) (.need (decide (D.getInt wt (Int.toNat j) 0 ≥ mi) = true) (.ret (.int .i64 3)))))))))))))))))))) (.br (decide (j > 0)) (.need (0 ≤ j ∧ j < (↑(D.len wt) : Int) ∧ D.sz wt = 1)
 (.need (D.HasCell wt (Int.toNat j) 0 (FT.int .i64)) (.need (decide (D.getInt wt (Int.toNat j) 0 < 0) = false) (.need (decide (D.getInt wt (Int.toNat j) 0 < 0) = false) (.need (decide (D.getInt wt (Int.toNat j) 0 < 0) = false)
 (.need (decide (D.getInt wt (Int.toNat j) 0 < 0) = false) (.need (0 ≤ j ∧ j < (↑(D.len wt) : Int) ∧ D.sz wt = 1) (.need (decide (D.getInt wt (Int.toNat j) 0 < 0) = false) (.need (D.HasCell wt (Int.toNat j) 0
 (FT.int .i64)) (.need (decide (D.getInt wt (Int.toNat j) 0 < 0) = false) (.need (decide (D.getInt wt (Int.toNat j) 0 < 0) = false) (.need (decide (D.getInt wt (Int.toNat j) 0 < 0) = false) (.need (decide
 (D.getInt wt (Int.toNat j) 0 < 0) = false) (.need (decide (D.getInt wt (Int.toNat j) 0 ≥ mi) = false) (.need (decide (D.getInt wt (Int.toNat j) 0 ≥ mi) = false) (.need (decide (D.getInt wt (Int.toNat j) 0 ≥ mi) = false)
 (.need (decide (j > 0) = true) (.need (decide (j > 0) = true) (.need (decide (j > 0) = true) (.need (decide (j > 0) = true) (.need (0 ≤ j ∧ j < (↑(D.len wt) : Int) ∧ D.sz wt = 1) (.need (decide (j > 0) = true)
 (.need (D.HasCell wt (Int.toNat j) 0 (FT.int .i64)) (.need (decide (j > 0) = true) (.need (decide (j > 0) = true) (.need (decide (j > 0) = true) (.need (decide (j > 0) = true) (.need (decide (j > 0) = true)
 (.need (0 ≤ IntKind.wrap .i64 (j - 1) ∧ IntKind.wrap .i64 (j - 1) < (↑(D.len wt) : Int) ∧ D.sz wt = 1) (.need (decide (j > 0) = true) (.need (D.HasCell wt (Int.toNat (IntKind.wrap .i64 (j - 1))) 0 (FT.int .i64))
 (.need (decide (j > 0) = true) (.need (decide (D.getInt wt (Int.toNat j) 0 ≥ mi) = false) (.need (decide (j > 0) = true) (.need (decide (D.getInt wt (Int.toNat j) 0 ≥ mi) = false) (.br (decide (D.getInt wt
 (Int.toNat j) 0 ≤ D.getInt wt (Int.toNat (IntKind.wrap .i64 (j - 1))) 0)) (.ret (.int .i64 3)) z1)))))))))))))))))))))))))))))))))))) (.need (0 ≤ j ∧ j < (↑(D.len wt) : Int) ∧ D.sz wt = 1) (.need (D.HasCell wt
 (Int.toNat j) 0 (FT.int .i64)) (.need (decide (D.getInt wt (Int.toNat j) 0 < 0) = false) (.need (decide (D.getInt wt (Int.toNat j) 0 < 0) = false) (.need (decide (D.getInt wt (Int.toNat j) 0 < 0) = false)
 (.need (decide (D.getInt wt (Int.toNat j) 0 < 0) = false) (.need (0 ≤ j ∧ j < (↑(D.len wt) : Int) ∧ D.sz wt = 1) (.need (decide (D.getInt wt (Int.toNat j) 0 < 0) = false) (.need (D.HasCell wt (Int.toNat j) 0
 (FT.int .i64)) (.need (decide (D.getInt wt (Int.toNat j) 0 < 0) = false) (.need (decide (D.getInt wt (Int.toNat j) 0 < 0) = false) (.need (decide (D.getInt wt (Int.toNat j) 0 < 0) = false) (.need (decide
 (D.getInt wt (Int.toNat j) 0 < 0) = false) (.need (decide (D.getInt wt (Int.toNat j) 0 ≥ mi) = false) (.need (decide (D.getInt wt (Int.toNat j) 0 ≥ mi) = false) (.need (decide (D.getInt wt (Int.toNat j) 0 ≥ mi) = false)
 (.need (decide (j > 0) = false) (.need (decide (j > 0) = false) (.need (decide (j > 0) = false) (.need (decide (j > 0) = false) (.need (decide (j > 0) = false) (.need (decide (j > 0) = false) (.need (decide
 (j > 0) = false) (.need (decide (j > 0) = false) (.need (decide (j > 0) = false) (.need (decide (j > 0) = false) (.need (decide (j > 0) = false) (.need (decide (j > 0) = false) (.need (decide (D.getInt wt
 (Int.toNat j) 0 ≥ mi) = false) (.need (decide (j > 0) = false) (.need (decide (D.getInt wt (Int.toNat j) 0 ≥ mi) = false) z1)))))))))))))))))))))))))))))))))) (.leaf (Conf.mk (SFrm.mk 39 none none [Item.inLoop
 (cAt Try.prog 39 [1, 1, 1, 1, 0, 1, 0, 0]), Item.inBlock 2, Item.code (cAt Try.prog 39 [1, 1, 1, 1, 1])] (mkJ 0 [(1, .ptr 0 0), (4, .int .i64 0)] 0 147)) [] [(0, OBlk.cells 28 [.int .i64 mr, .int .i64 mp, .int .i64 mt, .int .i64 mi, .bool frozen, .int .i64 mu, .dat wt, .dat hd])])) := by
 intros; kernel_rfl

theorem cm2b_go : exec Try.prog ctH 400 (unroll (cm2bL mr mp mt mi mu frozen wt hd j)) =
 Tree.br (decide (j < (↑(D.len hd) : Int)))
 (.all fun hs =>
 .br (decide (D.getInt hd (Int.toNat j) 0 < 0))
 (.need (0 ≤ j ∧ j < (↑(D.len hd) : Int) ∧ D.sz hd = 1)
 (.need (D.HasCell hd (Int.toNat j) 0 (FT.int .i64))
 (.need (decide (D.getInt hd (Int.toNat j) 0 < 0) = true)
 (.need (decide (D.getInt hd (Int.toNat j) 0 < 0) = true)
 (.need (decide (D.getInt hd (Int.toNat j) 0 < 0) = true)
 (.need (decide (D.getInt hd (Int.toNat j) 0 < 0) = true)
 (.need (decide (D.getInt hd (Int.toNat j) 0 < 0) = true)
 (.need (decide (D.getInt hd (Int.toNat j) 0 < 0) = true)
 (.need (decide (D.getInt hd (Int.toNat j) 0 < 0) = true)
 (.need (decide (D.getInt hd (Int.toNat j) 0 < 0) = true)
 (.need (decide (D.getInt hd (Int.toNat j) 0 < 0) = true)
 (.ret (.int .i64 3)))))))))))))
 (.br (decide (D.getInt hd (Int.toNat j) 0 ≥ mi))
 (.need (0 ≤ j ∧ j < (↑(D.len hd) : Int) ∧ D.sz hd = 1)
 (.need (D.HasCell hd (Int.toNat j) 0 (FT.int .i64))
 (.need (decide (D.getInt hd (Int.toNat j) 0 < 0) = false)
 (.need (decide (D.getInt hd (Int.toNat j) 0 < 0) = false)
 (.need (decide (D.getInt hd (Int.toNat j) 0 < 0) = false)
 (.need (decide (D.getInt hd (Int.toNat j) 0 < 0) = false)
 (.need (0 ≤ j ∧ j < (↑(D.len hd) : Int) ∧ D.sz hd = 1)
 (.need (decide (D.getInt hd (Int.toNat j) 0 < 0) = false)
 (.need (D.HasCell hd (Int.toNat j) 0 (FT.int .i64))
 (.need (decide (D.getInt hd (Int.toNat j) 0 < 0) = false)
 (.need (decide (D.getInt hd (Int.toNat j) 0 < 0) = false)
 (.need (decide (D.getInt hd (Int.toNat j) 0 < 0) = false)
 (.need (decide (D.getInt hd (Int.toNat j) 0 < 0) = false)
 (.need (decide (D.getInt hd (Int.toNat j) 0 ≥ mi) = true)
 (.need (decide (D.getInt hd (Int.toNat j) 0 ≥ mi) = true)
 (.need (decide (D.getInt hd (Int.toNat j) 0 ≥ mi) = true)
 (.need (decide (D.getInt hd (Int.toNat j) 0 ≥ mi) = true)
 (.need (decide (D.getInt hd (Int.toNat j) 0 ≥ mi) = true)
 (.need (decide (D.getInt hd (Int.toNat j) 0 ≥ mi) = true)
 (.need (decide (D.getInt hd (Int.toNat j) 0 ≥ mi) = true)
 (.need (decide (D.getInt hd (Int.toNat j) 0 ≥ mi) = true)
 (.need (decide (D.getInt hd (Int.toNat j) 0 ≥ mi) = true)
 (.need (decide (D.getInt hd (Int.toNat j) 0 ≥ mi) = true)
 (.need (decide (D.getInt hd (Int.toNat j) 0 ≥ mi) = true)
 (.ret (.int .i64 3))))))))))))))))))))))))))
 (.br (List.contains (D.to Int (D.sub hd 0 (Int.toNat j))) (D.getInt hd (Int.toNat j) 0))
 (.need (0 ≤ j ∧ j < (↑(D.len hd) : Int) ∧ D.sz hd = 1)
 (.need (D.HasCell hd (Int.toNat j) 0 (FT.int .i64))
 (.need (decide (D.getInt hd (Int.toNat j) 0 < 0) = false)
 (.need (decide (D.getInt hd (Int.toNat j) 0 < 0) = false)
 (.need (decide (D.getInt hd (Int.toNat j) 0 < 0) = false)
 (.need (decide (D.getInt hd (Int.toNat j) 0 < 0) = false)
 (.need (0 ≤ j ∧ j < (↑(D.len hd) : Int) ∧ D.sz hd = 1)
 (.need (decide (D.getInt hd (Int.toNat j) 0 < 0) = false)
 (.need (D.HasCell hd (Int.toNat j) 0 (FT.int .i64))
 (.need (decide (D.getInt hd (Int.toNat j) 0 < 0) = false)
 (.need (decide (D.getInt hd (Int.toNat j) 0 < 0) = false)
 (.need (decide (D.getInt hd (Int.toNat j) 0 < 0) = false)
 (.need (decide (D.getInt hd (Int.toNat j) 0 < 0) = false)
 (.need (decide (D.getInt hd (Int.toNat j) 0 ≥ mi) = false)
 (.need (decide (D.getInt hd (Int.toNat j) 0 ≥ mi) = false)
 (.need (decide (D.getInt hd (Int.toNat j) 0 ≥ mi) = false)
 (.need (decide (D.getInt hd (Int.toNat j) 0 ≥ mi) = false)
 (.need
 (0 ≤ (↑0 : Int) ∧ (↑0 : Int) ≤ j ∧ j ≤ (↑(D.len hd) : Int) ∧ D.Fits hd 1)
 (.need (decide (D.getInt hd (Int.toNat j) 0 ≥ mi) = false)
 (.need (decide (D.getInt hd (Int.toNat j) 0 ≥ mi) = false)
 (.need (decide (D.getInt hd (Int.toNat j) 0 ≥ mi) = false)
 (.need (decide (D.getInt hd (Int.toNat j) 0 ≥ mi) = false)
 (.need (0 ≤ j ∧ j < (↑(D.len hd) : Int) ∧ D.sz hd = 1)
 (.need (decide (D.getInt hd (Int.toNat j) 0 ≥ mi) = false)
 (.need (D.HasCell hd (Int.toNat j) 0 (FT.int .i64))
 (.need
 (decide (D.getInt hd (Int.toNat j) 0 ≥ mi) = false)
 (.need
 (D.Is Int (D.sub hd 0 (Int.toNat j)) ∧
 D.len (D.sub hd 0 (Int.toNat j)) ≤ 1048576)
 (.need
 (decide (D.getInt hd (Int.toNat j) 0 ≥ mi) = false)
 (.need
 (List.contains (D.to Int (D.sub hd 0 (Int.toNat j)))
 (D.getInt hd (Int.toNat j) 0) =
 true)
 (.need
 (List.contains
 (D.to Int (D.sub hd 0 (Int.toNat j)))
 (D.getInt hd (Int.toNat j) 0) =
 true)
 (.need
 (List.contains
 (D.to Int (D.sub hd 0 (Int.toNat j)))
 (D.getInt hd (Int.toNat j) 0) =
 true)
 (.need
 (List.contains
 (D.to Int (D.sub hd 0 (Int.toNat j)))
 (D.getInt hd (Int.toNat j) 0) =
 true)
 (.need
 (List.contains
 (D.to Int (D.sub hd 0 (Int.toNat j)))
 (D.getInt hd (Int.toNat j) 0) =
 true)
 (.need
 (List.contains
 (D.to Int (D.sub hd 0 (Int.toNat j)))
 (D.getInt hd (Int.toNat j) 0) =
 true)
 (.need
 (List.contains
 (D.to Int
 (D.sub hd 0 (Int.toNat j)))
 (D.getInt hd (Int.toNat j) 0) =
 true)
 (.need
 (List.contains
 (D.to Int
 (D.sub hd 0 (Int.toNat j)))
 (D.getInt hd (Int.toNat j) 0) =
 true)
 (.need
 (List.contains
 (D.to Int
 (D.sub hd 0 (Int.toNat j)))
 (D.getInt hd (Int.toNat j) 0) =
 true)
 (.ret
 (.int .i64
 3)))))))))))))))))))))))))))))))))))))))
 (.need (0 ≤ j ∧ j < (↑(D.len hd) : Int) ∧ D.sz hd = 1)
 (.need (D.HasCell hd (Int.toNat j) 0 (FT.int .i64))
 (.need (decide (D.getInt hd (Int.toNat j) 0 < 0) = false)
 (.need (decide (D.getInt hd (Int.toNat j) 0 < 0) = false)
 (.need (decide (D.getInt hd (Int.toNat j) 0 < 0) = false)
 (.need (decide (D.getInt hd (Int.toNat j) 0 < 0) = false)
 (.need (0 ≤ j ∧ j < (↑(D.len hd) : Int) ∧ D.sz hd = 1)
 (.need (decide (D.getInt hd (Int.toNat j) 0 < 0) = false)
 (.need (D.HasCell hd (Int.toNat j) 0 (FT.int .i64))
 (.need (decide (D.getInt hd (Int.toNat j) 0 < 0) = false)
 (.need (decide (D.getInt hd (Int.toNat j) 0 < 0) = false)
 (.need (decide (D.getInt hd (Int.toNat j) 0 < 0) = false)
 (.need (decide (D.getInt hd (Int.toNat j) 0 < 0) = false)
 (.need (decide (D.getInt hd (Int.toNat j) 0 ≥ mi) = false)
 (.need (decide (D.getInt hd (Int.toNat j) 0 ≥ mi) = false)
 (.need (decide (D.getInt hd (Int.toNat j) 0 ≥ mi) = false)
 (.need (decide (D.getInt hd (Int.toNat j) 0 ≥ mi) = false)
 (.need
 (0 ≤ (↑0 : Int) ∧ (↑0 : Int) ≤ j ∧ j ≤ (↑(D.len hd) : Int) ∧ D.Fits hd 1)
 (.need (decide (D.getInt hd (Int.toNat j) 0 ≥ mi) = false)
 (.need (decide (D.getInt hd (Int.toNat j) 0 ≥ mi) = false)
 (.need (decide (D.getInt hd (Int.toNat j) 0 ≥ mi) = false)
 (.need (decide (D.getInt hd (Int.toNat j) 0 ≥ mi) = false)
 (.need (0 ≤ j ∧ j < (↑(D.len hd) : Int) ∧ D.sz hd = 1)
 (.need (decide (D.getInt hd (Int.toNat j) 0 ≥ mi) = false)
 (.need (D.HasCell hd (Int.toNat j) 0 (FT.int .i64))
 (.need
 (decide (D.getInt hd (Int.toNat j) 0 ≥ mi) = false)
 (.need
 (D.Is Int (D.sub hd 0 (Int.toNat j)) ∧
 D.len (D.sub hd 0 (Int.toNat j)) ≤ 1048576)
 (.need
 (decide (D.getInt hd (Int.toNat j) 0 ≥ mi) = false)
 (.need
 (List.contains (D.to Int (D.sub hd 0 (Int.toNat j)))
 (D.getInt hd (Int.toNat j) 0) =
 false)
 (.need
 (List.contains
 (D.to Int (D.sub hd 0 (Int.toNat j)))
 (D.getInt hd (Int.toNat j) 0) =
 false)
 (.need
 (List.contains
 (D.to Int (D.sub hd 0 (Int.toNat j)))
 (D.getInt hd (Int.toNat j) 0) =
 false)
 (.need
 (List.contains
 (D.to Int (D.sub hd 0 (Int.toNat j)))
 (D.getInt hd (Int.toNat j) 0) =
 false)
 (.need
 (List.contains
 (D.to Int (D.sub hd 0 (Int.toNat j)))
 (D.getInt hd (Int.toNat j) 0) =
 false)
 (.need
 (List.contains
 (D.to Int (D.sub hd 0 (Int.toNat j)))
 (D.getInt hd (Int.toNat j) 0) =
 false)
 (.need
 (0 ≤ j ∧
 j < (↑(D.len hd) : Int) ∧ D.sz hd = 1)
 (.need
 (List.contains
 (D.to Int
 (D.sub hd 0 (Int.toNat j)))
 (D.getInt hd (Int.toNat j) 0) =
 false)
 (.need
 (D.HasCell hd (Int.toNat j) 0
 (FT.int .i64))
 (.need
 (List.contains
 (D.to Int
 (D.sub hd 0 (Int.toNat j)))
 (D.getInt hd (Int.toNat j)
 0) =
 false)
 (.need
 (D.Is Int wt ∧
 D.len wt ≤ 1048576)
 (.need
 (List.contains
 (D.to Int
 (D.sub hd 0
 (Int.toNat j)))
 (D.getInt hd (Int.toNat j)
 0) =
 false)
 (.br
 (List.contains (D.to Int wt)
 (D.getInt hd (Int.toNat j)
 0))
 (.ret
 (.int .i64 3))
 (.leaf
 (Conf.mk
 (SFrm.mk 39 none none
 [Item.inLoop
 (cAt Try.prog 39
 [1, 1, 1, 1, 0,
 1, 0, 0]),
 Item.inBlock 2,
 Item.code
 (cAt Try.prog 39
 [1, 1, 1, 1,
 1])]
 (mkJ 0
 [(1, .ptr 0 0),
 (4,
 .int
 .i64
 (IntKind.wrap
 .i64
 (j + 1)))]
 0 147))
 []
 [(0,
 OBlk.cells 28
 [.int
 .i64
 mr,
 .int
 .i64
 mp,
 .int
 .i64
 mt,
 .int
 .i64
 mi,
 .bool frozen,
 .int
 .i64
 mu,
 .dat wt,
 .dat
 hd])]))))))))))))))))))))))))))))))))))))))))))))))
 (.ret (.int .i64 0)) := by kernel_rfl

end
end Go.Proofs.Ytoechplbhbalaaa
end
section
open Go Go.Proofs Sx
namespace Sx

theorem cm_eq {m : Mb} (h : headMb m = true) : checkMb m = if (List.range m.waiting.length).any (badW m.issued m.waiting) = true then 3 else if (List.range m.held.length).any (badH m.issued m.waiting m.held) = true then 3 else 0 := by
 unfold checkMb
 rw [if_neg (by rw [h]; simp)]

theorem any_range {p : Nat → Bool} {n j : Nat} (hj : j < n) (h : p j = true) : (List.range n).any p = true := List.any_eq_true.2 ⟨j, List.mem_range.2 hj, h⟩
theorem any_snoc {p : Nat → Bool} {j : Nat} (h1 : (List.range j).any p = false) (h2 : p j = false) : (List.range (j + 1)).any p = false := by
 rw [List.range_succ, List.any_append, h1]; simp [h2]

theorem wrap_pred {j : Nat} (h : 0 < j) (hj : j ≤ 1048576) : IntKind.i64.wrap ((j : Int) - 1) = ((j - 1 : Nat) : Int) := by rw [wrap64 (by omega) (by omega)]; omega

section
variable {P : Program} {w : World} {H : HV}
theorem ret_mb3 {r p t i u : Int} {F W Hd X Y : SV} {f : Bool} {ws hs av : List Int} {ms : List Msg} {res : Mb × List Int × List Msg} (hf : ∀ E, F.den E = (SV.bool f).den E) (hw : Stands Int W ws) (hh : Stands Int Hd hs) (hx : Stands Int X av) (hy : Stands Msg Y ms)
  (hr : res = (⟨r, p, t, i, f, u, ws, hs⟩, av, ms)) :
  (Tree.ret (.tup [.agg [.int .i64 r, .int .i64 p, .int .i64 t, .int .i64 i, F, .int .i64 u, W, Hd], X, Y])).holds P ⟨w, H⟩ (RetD w H fun ds => .tup [mbSV (ds 0) (ds 1) res.1, .dat ((ds 2).like res.2.1), .dat ((ds 3).like res.2.2)]) := by
 subst hr
 obtain ⟨d, h1, h2, h3, h4⟩ := hw
 obtain ⟨d', h1', h2', h3', h4'⟩ := hh
 obtain ⟨d'', h1'', h2'', h3'', h4''⟩ := hx
 obtain ⟨e, k1, k2, k3, k4⟩ := hy
 refine ret_D (fun i => match i with | 0 => d | 1 => d' | 2 => d'' | _ => e) (fun E E' => ?_) (fun H' ho => ?_)
 ·have : F.den E = (SV.bool f).den E' := by rw [hf]; rfl
  simp only [SV.den, SV.denL, mbSV, D.like_self h2 h3, D.like_self h2' h3', D.like_self h2'' h3'', D.like_self k2 k3, h1, h1', h1'', k1, this]
 ·simp only [SV.Ok, SV.OkL, mbSV, D.like_self h2 h3, D.like_self h2' h3', D.like_self h2'' h3'', D.like_self k2 k3] at ho ⊢
  exact ⟨⟨trivial, trivial, trivial, trivial, trivial, trivial, ⟨h4 _ ho.1.2.2.2.2.2.2.1, h2.slc⟩, ⟨h4' _ ho.1.2.2.2.2.2.2.2.1, h2'.slc⟩, trivial⟩, ⟨h4'' _ ho.2.1, h2''.slc⟩, ⟨k4 _ ho.2.2.1, k2.slc⟩, trivial⟩

theorem ret_mb2 {r p t i u : Int} {F W Hd X : SV} {f : Bool} {ws hs av : List Int} {res : Mb × List Int} (hf : ∀ E, F.den E = (SV.bool f).den E) (hw : Stands Int W ws) (hh : Stands Int Hd hs) (hx : Stands Int X av)
  (hr : res = (⟨r, p, t, i, f, u, ws, hs⟩, av)) :
  (Tree.ret (.tup [.agg [.int .i64 r, .int .i64 p, .int .i64 t, .int .i64 i, F, .int .i64 u, W, Hd], X])).holds P ⟨w, H⟩ (RetD w H fun ds => .tup [mbSV (ds 0) (ds 1) res.1, .dat ((ds 2).like res.2)]) := by
 subst hr
 obtain ⟨d, h1, h2, h3, h4⟩ := hw
 obtain ⟨d', h1', h2', h3', h4'⟩ := hh
 obtain ⟨d'', h1'', h2'', h3'', h4''⟩ := hx
 refine ret_D (fun i => match i with | 0 => d | 1 => d' | _ => d'') (fun E E' => ?_) (fun H' ho => ?_)
 ·have : F.den E = (SV.bool f).den E' := by rw [hf]; rfl
  simp only [SV.den, SV.denL, mbSV, D.like_self h2 h3, D.like_self h2' h3', D.like_self h2'' h3'', h1, h1', h1'', this]
 ·simp only [SV.Ok, SV.OkL, mbSV, D.like_self h2 h3, D.like_self h2' h3', D.like_self h2'' h3''] at ho ⊢
  exact ⟨⟨trivial, trivial, trivial, trivial, trivial, trivial, ⟨h4 _ ho.1.2.2.2.2.2.2.1, h2.slc⟩, ⟨h4' _ ho.1.2.2.2.2.2.2.2.1, h2'.slc⟩, trivial⟩, ⟨h4'' _ ho.2.1, h2''.slc⟩, trivial⟩

theorem ret_mbI {r p t i u k : Int} {F W Hd : SV} {f : Bool} {ws hs : List Int} {res : Mb × Int} (hf : ∀ E, F.den E = (SV.bool f).den E) (hw : Stands Int W ws) (hh : Stands Int Hd hs)
  (hr : res = (⟨r, p, t, i, f, u, ws, hs⟩, k)) :
  (Tree.ret (.tup [.agg [.int .i64 r, .int .i64 p, .int .i64 t, .int .i64 i, F, .int .i64 u, W, Hd], .int .i64 k])).holds P ⟨w, H⟩ (RetD w H fun ds => .tup [mbSV (ds 0) (ds 1) res.1, .int .i64 res.2]) := by
 subst hr
 obtain ⟨d, h1, h2, h3, h4⟩ := hw
 obtain ⟨d', h1', h2', h3', h4'⟩ := hh
 refine ret_D (fun i => match i with | 0 => d | _ => d') (fun E E' => ?_) (fun H' ho => ?_)
 ·have : F.den E = (SV.bool f).den E' := by rw [hf]; rfl
  simp only [SV.den, SV.denL, mbSV, D.like_self h2 h3, D.like_self h2' h3', h1, h1', this]
 ·simp only [SV.Ok, SV.OkL, mbSV, D.like_self h2 h3, D.like_self h2' h3'] at ho ⊢
  exact ⟨⟨trivial, trivial, trivial, trivial, trivial, trivial, ⟨h4 _ ho.1.2.2.2.2.2.2.1, h2.slc⟩, ⟨h4' _ ho.1.2.2.2.2.2.2.2.1, h2'.slc⟩, trivial⟩, trivial, trivial⟩
end
end Sx

namespace Go.Proofs.Ytoechplbhbalaaa
set_option maxRecDepth 100000

theorem lawIx : Law Try.prog 71 ((rdD.two rdInt).sp spIdx21) := by
 refine law_in _ (by kernel_rfl) fun H w ⟨d, n⟩ hok hp => ?_
 obtain ⟨hd, hlen⟩ := hp _ (List.mem_singleton.2 rfl)
 simp only at hd hlen
 rw [D.Is.length (α := Int)] at hlen
 apply exec_sound (noCtr _) 200
 rw [show (rdD.two rdInt).canon (d, n) = [.dat d, .int .i64 n] from rfl, ix_in]
 refine runs_loop (fun j : Nat => ixL d n j) (fun j => j ≤ (d.to Int).length ∧ ((d.to Int).take j).findIdx? (fun x => n == x) = none) (fun j => (d.to Int).length - j) (fun _ => rfl) ?_ 0 ⟨Nat.zero_le _, by simp⟩
 intro j ⟨hj, hpre⟩ ih
 apply exec_sound (noCtr _) 200
 rw [ix_go]
 have hl := D.Is.length (α := Int) d
 refine ⟨fun hc => ?_, fun hc => ?_⟩
 ·simp [hl] at hc
  obtain ⟨c1, c2, c3⟩ := int_at hd hc
  rw [c3]
  refine ⟨c1, c2, fun hc2 => ret_int ?_, fun hc2 => ?_⟩
  ·have : (d.to Int).findIdx? (fun x => n == x) = some j := by
    rw [List.findIdx?_eq_some_iff_getElem]
    refine ⟨hc, hc2, fun i hi => ?_⟩
    rw [List.findIdx?_eq_none_iff] at hpre
    have := hpre (d.to Int)[i] (List.mem_take_iff_getElem.2 ⟨i, by omega, rfl⟩)
    simpa using this
   simp [idxP, this]
  ·have := ih (j + 1) ⟨hc, by rw [List.take_succ_eq_append_getElem hc, List.findIdx?_append, hpre]; simp at hc2; simp [hc2]⟩ (by omega)
   rw [← wrap_succ hc hlen] at this
   exact this
 ·simp [hl] at hc
  have : j = (d.to Int).length := by omega
  subst this
  rw [List.take_length] at hpre
  exact ret_int (by simp only [idxP, hpre]; rfl)

theorem ctIx : Ctrs.Ok Try.prog [(71, ctrOf ((rdD.two rdInt).sp spIdx21))] := by
 intro x hx
 rw [List.mem_singleton.1 hx]
 exact ctrOf_ok lawIx

theorem lawCont : Law Try.prog 34 ((rdD.two rdInt).sp spHas21) := by
 refine law_in _ (by kernel_rfl) fun H w ⟨d, n⟩ hok hp => ?_
 apply exec_sound ctIx 200
 rw [show (rdD.two rdInt).canon (d, n) = [.dat d, .int .i64 n] from rfl, ct_in]
 refine ⟨hp _ (List.mem_singleton.2 rfl), ret_bool ?_⟩
 rw [idxP_any, List.contains_eq_any_beq]
 rfl

theorem lawHas : Law Try.prog 73 ((rdD.two rdInt).sp spHas21) := by
 refine law_in _ (by kernel_rfl) fun H w ⟨d, n⟩ hok hp => ?_
 obtain ⟨hd, hlen⟩ := hp _ (List.mem_singleton.2 rfl)
 simp only at hd hlen
 rw [D.Is.length (α := Int)] at hlen
 apply exec_sound (noCtr _) 200
 rw [show (rdD.two rdInt).canon (d, n) = [.dat d, .int .i64 n] from rfl, has_in]
 refine runs_loop (fun j : Nat => hasL d n j) (fun j => j ≤ (d.to Int).length ∧ ((d.to Int).take j).contains n = false) (fun j => (d.to Int).length - j) (fun _ => rfl) ?_ 0 ⟨Nat.zero_le _, by simp⟩
 intro j ⟨hj, hpre⟩ ih
 apply exec_sound (noCtr _) 200
 rw [has_go]
 have hl := D.Is.length (α := Int) d
 refine ⟨fun hc => ?_, fun hc => ?_⟩
 ·simp [hl] at hc
  obtain ⟨c1, c2, c3⟩ := int_at hd hc
  rw [c3]
  refine ⟨c1, c2, fun hc2 => ret_lb ?_, fun hc2 => ?_⟩
  ·simp at hc2
   symm
   rw [List.contains_iff_mem, ← hc2]
   exact List.getElem_mem hc
  ·have := ih (j + 1) ⟨hc, by rw [take_has hc, hpre]; simpa using hc2⟩ (by omega)
   rw [← wrap_succ hc hlen] at this
   exact this
 ·simp [hl] at hc
  have : j = (d.to Int).length := by omega
  subst this
  rw [List.take_length] at hpre
  exact ret_lb hpre.symm

theorem lawEvery : Law Try.prog 64 (rdD.one.sp spEvery) := by
 refine law_in _ (by kernel_rfl) fun H w d hok hp => ?_
 obtain ⟨hd, hlen⟩ := hp _ (List.mem_singleton.2 rfl)
 rw [D.Is.length (α := Bool)] at hlen
 apply exec_sound (noCtr _) 200
 rw [show rdD.one.canon d = [.dat d] from rfl, every_in]
 refine runs_loop (fun j : Nat => everyL d j) (fun j => j ≤ (d.to Bool).length ∧ ((d.to Bool).take j).all id = true) (fun j => (d.to Bool).length - j) (fun _ => rfl) ?_ 0 ⟨Nat.zero_le _, by simp⟩
 intro j ⟨hj, hpre⟩ ih
 apply exec_sound (noCtr _) 200
 rw [every_go]
 have hl := D.Is.length (α := Bool) d
 refine ⟨fun hc => ?_, fun hc => ?_⟩
 ·simp [hl] at hc
  obtain ⟨c1, c2, c3⟩ := bool_at hd hc
  rw [c3]
  refine ⟨c1, c2, fun hc2 => ret_lb ?_, fun hc2 => ?_⟩
  ·simp at hc2
   symm
   rw [List.all_eq_false]
   exact ⟨_, List.getElem_mem hc, by simp [hc2]⟩
  ·have := ih (j + 1) ⟨hc, by rw [List.take_succ_eq_append_getElem hc, List.all_append, hpre]; simp at hc2; simp [hc2]⟩ (by omega)
   rw [← wrap_succ hc hlen] at this
   exact this
 ·simp [hl] at hc
  have : j = (d.to Bool).length := by omega
  subst this
  rw [List.take_length] at hpre
  exact ret_lb hpre.symm

theorem lawAns : Law Try.prog 58 ((rdMsg.three rdInt rdInt).sp spAns) := by
 refine law_in _ (by kernel_rfl) fun H w ⟨⟨mk, mf, mto, mn, mv, me, ml, mb⟩, k, v⟩ hok hp => ?_
 apply exec_sound (noCtr _) 200
 rw [show (rdMsg.three rdInt rdInt).canon (⟨mk, mf, mto, mn, mv, me, ml, mb⟩, k, v) = [.agg [.int .i64 mk, .int .i64 mf, .int .i64 mto, .int .i64 mn, .int .i64 mv, .int .i64 me, .dat ml, .dat mb], .int .i64 k, .int .i64 v] from rfl, ans_in]
 exact fun hs => ret_msgs' (stands_rows rfl (msg_row' rfl)) rfl

theorem lawThaw : Law Try.prog 60 (rdMb.one.sp spThaw) := by
 refine law_in _ (by kernel_rfl) fun H w ⟨r, p, t, i, f, u, wt, hd⟩ hok hp => ?_
 obtain ⟨hw, hh, _⟩ := hp _ (List.mem_singleton.2 rfl)
 apply exec_sound (noCtr _) 200
 rw [show rdMb.one.canon ⟨r, p, t, i, f, u, wt, hd⟩ = [.agg [.int .i64 r, .int .i64 p, .int .i64 t, .int .i64 i, .bool f, .int .i64 u, .dat wt, .dat hd]] from rfl, thaw_in]
 exact ret_mb2 lb_den (stands_self hw) stands_nils (stands_self hh) rfl

theorem ctEnd : Ctrs.Ok Try.prog [(58, ctrOf ((rdMsg.three rdInt rdInt).sp spAns)), (60, ctrOf (rdMb.one.sp spThaw))] := by
 intro x hx
 simp only [List.mem_cons, List.not_mem_nil, or_false] at hx
 rcases hx with rfl | rfl
 ·exact ctrOf_ok lawAns
 ·exact ctrOf_ok lawThaw

theorem lawEnd : Law Try.prog 59 ((rdMb.three rdInt rdMsg).sp spEnd) := by
 refine law_in _ (by kernel_rfl) fun H w ⟨⟨r, p, t, i, f, u, wt, hd⟩, now, ⟨mk, mf, mto, mn, mv, me, ml, mb⟩⟩ hok hp => ?_
 have hp := hp _ (List.mem_singleton.2 rfl)
 obtain ⟨hw, hh, lw, lh⟩ := hp
 simp only at hw hh lw lh
 apply exec_sound ctEnd 200
 rw [show (rdMb.three rdInt rdMsg).canon (⟨r, p, t, i, f, u, wt, hd⟩, now, ⟨mk, mf, mto, mn, mv, me, ml, mb⟩) = [.agg [.int .i64 r, .int .i64 p, .int .i64 t, .int .i64 i, .bool f, .int .i64 u, .dat wt, .dat hd], .int .i64 now, .agg [.int .i64 mk, .int .i64 mf, .int .i64 mto, .int .i64 mn, .int .i64 mv, .int .i64 me, .dat ml, .dat mb]] from rfl, end_in]
 refine ⟨fun h1 => ⟨fun h2 hs => ?_, fun h2 hs => ?_⟩, fun h1 => ⟨fun h2 _ => ⟨⟨hw, hh, lw, lh⟩, fun _ _ => ?_⟩, fun h2 => ⟨⟨hw, hh, lw, lh⟩, fun _ _ => ?_⟩⟩⟩
 ·simp only [Bool.not_eq_true', decide_eq_true_eq] at h1 h2
  exact ret_mb3 (fun _ => rfl) (stands_self hw) (stands_self hh) stands_nils stands_like (by simp [endMb, MbD.mb, h1, h2])
 ·simp only [Bool.not_eq_true', decide_eq_false_iff_not] at h1 h2
  exact ret_mb3 (fun _ => rfl) (stands_self hw) (stands_self hh) stands_nils stands_like (by simp [endMb, MbD.mb, h1, h2])
 ·simp only [Bool.not_eq_false', decide_eq_true_eq] at h1 h2
  exact ret_mb3 (fun _ => rfl) stands_like stands_like stands_like stands_like (by simp [endMb, MbD.mb, h1, h2])
 ·simp only [Bool.not_eq_false', decide_eq_false_iff_not] at h1 h2
  exact ret_mb3 (fun _ => rfl) stands_like stands_like stands_like stands_like (by simp [endMb, MbD.mb, h1, h2])

theorem ctGive : Ctrs.Ok Try.prog [(51, ctrOf ((rdCo.two rdInt).sp spAll2))] := by
 intro x hx
 rw [List.mem_singleton.1 hx]
 exact ctrOf_ok lawAll2

theorem lawGive : Law Try.prog 65 (rdCo.one.sp spGive) := by
 refine law_in _ (by kernel_rfl) fun H w ⟨n, r, p, dl, d, s, v⟩ hok hp => ?_
 obtain ⟨hd, hs, hn⟩ := hp _ (List.mem_singleton.2 rfl)
 apply exec_sound ctGive 200
 rw [show rdCo.one.canon ⟨n, r, p, dl, d, s, v⟩ = [.agg [.int .i64 n, .int .i64 r, .int .i64 p, .int .i64 dl, .dat d, .dat s, .bool v]] from rfl, give_in]
 exact fun _ => ⟨hn, ret_co2 (stands_self hd) (stands_self hs) lb_den stands_like rfl⟩

theorem lawSameMb : Law Try.prog 26 ((rdMb.two rdMb).sp spSameMb) := by
 refine law_in _ (by kernel_rfl) fun H w ⟨⟨r, p, t, i, f, u, wt, hd⟩, ⟨r', p', t', i', f', u', wt', hd'⟩⟩ hok hp => ?_
 obtain ⟨⟨hw, hh, lw, lh⟩, ⟨hw', hh', lw', lh'⟩⟩ := hp _ (List.mem_singleton.2 rfl)
 simp only at hw hh lw lh hw' hh' lw' lh'
 apply exec_sound ctBOk 300
 rw [show (rdMb.two rdMb).canon (⟨r, p, t, i, f, u, wt, hd⟩, ⟨r', p', t', i', f', u', wt', hd'⟩) = [.agg [.int .i64 r, .int .i64 p, .int .i64 t, .int .i64 i, .bool f, .int .i64 u, .dat wt, .dat hd], .agg [.int .i64 r', .int .i64 p', .int .i64 t', .int .i64 i', .bool f', .int .i64 u', .dat wt', .dat hd']] from rfl, samemb_in]
 simp only [MbD.mb, Mb.mk.injEq]
 refine ⟨fun h1 => ⟨fun h2 => ⟨fun h3 => ⟨fun h4 => ⟨fun h5 => ⟨fun h6 => ⟨⟨hw, hw', by omega⟩, fun h7 => ⟨⟨hh, hh', by omega⟩, ret_bool ?_⟩, fun h7 => ret_lb ?_⟩, fun h6 => ret_lb ?_⟩, fun h5 => ret_lb ?_⟩, fun h4 => ret_lb ?_⟩, fun h3 => ret_lb ?_⟩, fun h2 => ret_lb ?_⟩, fun h1 => ret_lb ?_⟩
 all_goals (simp only [decide_eq_true_eq, decide_eq_false_iff_not] at *; simp [*])

theorem ctHOk : Ctrs.Ok Try.prog ctH := by
 intro x hx
 simp only [ctH, List.mem_cons, List.not_mem_nil, or_false] at hx
 rcases hx with rfl | rfl
 ·exact ctrOf_ok lawCont
 ·exact ctrOf_ok lawHas

theorem cm1b_loop {H : HV} {mr mp mt mi mu : Int} {f : Bool} {wt hd : D} (hw : wt.Is Int) (hh : hd.Is Int) (lw : wt.len ≤ 1048575) (lh : hd.len ≤ 1048575) (w : World) (k : Int)
  (hk : k = if (List.range (hd.to Int).length).any (badH mi (wt.to Int) (hd.to Int)) = true then 3 else 0) :
  Runs Try.prog ⟨w, H⟩ (cm1bL mr mp mt mi mu f wt hd 0) (RetS w H (.int .i64 k)) := by
 have hl := D.Is.length (α := Int) hd
 refine runs_loop (fun j : Nat => cm1bL mr mp mt mi mu f wt hd j) (fun j => j ≤ (hd.to Int).length ∧ (List.range j).any (badH mi (wt.to Int) (hd.to Int)) = false) (fun j => (hd.to Int).length - j) (fun _ => rfl) ?_ 0 ⟨Nat.zero_le _, by simp⟩
 intro j ⟨hj, hpre⟩ ih
 apply exec_sound ctHOk 400
 rw [cm1b_go]
 refine ⟨fun hc => ?_, fun hc => ?_⟩
 ·simp [hl] at hc
  obtain ⟨c1, c2, c3⟩ := int_at hh hc
  have hg := getD_lt hc
  rw [c3]
  obtain ⟨s1, s2⟩ := hh.sub 0 (Int.toNat (j : Int))
  have s2 : (hd.sub 0 (Int.toNat (j : Int))).to Int = (hd.to Int).take j := by rw [s2]; simp
  have s3 : (hd.sub 0 (Int.toNat (j : Int))).len ≤ 1048576 := by rw [D.Is.length (α := Int), s2, List.length_take]; omega
  rw [s2]
  have bad : badH mi (wt.to Int) (hd.to Int) j = true → 3 = k := fun hb => by rw [hk, any_range hc hb]; rfl
  refine ⟨c1, c2, fun h1 => ret_int (bad ?_), fun h1 => ⟨fun h2 => ret_int (bad ?_), fun h2 => ⟨⟨by omega, by omega, by omega, hh.fits⟩, ⟨s1, s3⟩, fun h3 => ret_int (bad ?_), fun h3 => ⟨⟨hw, by omega⟩, fun h4 => ret_int (bad ?_), fun h4 => ?_⟩⟩⟩⟩
  ·simp only [badH, hg, h1]; simp
  ·simp only [badH, hg, h2]; simp
  ·simp only [badH, hg, h3]; simp
  ·simp only [badH, hg, h4]; simp
  ·have := ih (j + 1) ⟨hc, any_snoc hpre (by simp only [badH, hg, h1, h2, h3, h4]; rfl)⟩ (by omega)
   rw [← wrap_succ hc (by omega)] at this
   exact this
 ·simp [hl] at hc
  have : j = (hd.to Int).length := by omega
  subst this
  exact ret_int (by rw [hk, hpre]; rfl)

theorem cm1a_loop {H : HV} {mr mp mt mi mu : Int} {f : Bool} {wt hd : D} (hw : wt.Is Int) (hh : hd.Is Int) (lw : wt.len ≤ 1048575) (lh : hd.len ≤ 1048575) (w : World) (hhead : headMb ⟨mr, mp, mt, mi, f, mu, wt.to Int, hd.to Int⟩ = true) :
  Runs Try.prog ⟨w, H⟩ (cm1aL mr mp mt mi mu f wt hd 0) (RetS w H (.int .i64 (checkMb ⟨mr, mp, mt, mi, f, mu, wt.to Int, hd.to Int⟩))) := by
 have hk := cm_eq hhead
 simp only at hk
 have hl := D.Is.length (α := Int) wt
 refine runs_loop (fun j : Nat => cm1aL mr mp mt mi mu f wt hd j) (fun j => j ≤ (wt.to Int).length ∧ (List.range j).any (badW mi (wt.to Int)) = false) (fun j => (wt.to Int).length - j) (fun _ => rfl) ?_ 0 ⟨Nat.zero_le _, by simp⟩
 intro j ⟨hj, hpre⟩ ih
 apply exec_sound ctHOk 400
 rw [cm1a_go]
 refine ⟨fun hc => ?_, fun hc => ?_⟩
 ·simp [hl] at hc
  obtain ⟨c1, c2, c3⟩ := int_at hw hc
  have hg := getD_lt hc
  rw [c3]
  have bad : badW mi (wt.to Int) j = true → 3 = checkMb ⟨mr, mp, mt, mi, f, mu, wt.to Int, hd.to Int⟩ := fun hb => by rw [hk, any_range hc hb]; rfl
  have go : badW mi (wt.to Int) j = false → Runs Try.prog ⟨w, H⟩ (cm1aL mr mp mt mi mu f wt hd (IntKind.i64.wrap ((j : Int) + 1))) (RetS w H (.int .i64 (checkMb ⟨mr, mp, mt, mi, f, mu, wt.to Int, hd.to Int⟩))) := fun hb => by
   rw [wrap_succ hc (by omega)]
   exact ih (j + 1) ⟨hc, any_snoc hpre hb⟩ (by omega)
  refine ⟨c1, c2, fun h1 => ret_int (bad ?_), fun h1 => ⟨fun h2 => ret_int (bad ?_), fun h2 => ⟨fun h3 => ?_, fun h3 => go ?_⟩⟩⟩
  ·simp only [badW, hg, h1]; simp
  ·simp only [badW, hg, h2]; simp
  ·have hj0 : 0 < j := by simpa using h3
   rw [wrap_pred hj0 (by omega)]
   have hc' : j - 1 < (wt.to Int).length := by omega
   obtain ⟨d1, d2, d3⟩ := int_at hw hc'
   have hg' := getD_lt hc'
   rw [d3]
   refine ⟨d1, d2, fun h4 => ret_int (bad ?_), fun h4 => go ?_⟩
   ·simp only [badW, hg, hg', h4]; simp [hj0]
   ·simp only [badW, hg, hg', h1, h2, h4]; simp
  ·have hj0 : ¬ 0 < j := by simpa using h3
   simp only [badW, hg, h1, h2]; simp [hj0]
 ·simp [hl] at hc
  have : j = (wt.to Int).length := by omega
  subst this
  exact cm1b_loop hw hh lw lh w _ (by rw [hk, hpre]; rfl)

theorem cm2b_loop {H : HV} {mr mp mt mi mu : Int} {f : Bool} {wt hd : D} (hw : wt.Is Int) (hh : hd.Is Int) (lw : wt.len ≤ 1048575) (lh : hd.len ≤ 1048575) (w : World) (k : Int)
  (hk : k = if (List.range (hd.to Int).length).any (badH mi (wt.to Int) (hd.to Int)) = true then 3 else 0) :
  Runs Try.prog ⟨w, H⟩ (cm2bL mr mp mt mi mu f wt hd 0) (RetS w H (.int .i64 k)) := by
 have hl := D.Is.length (α := Int) hd
 refine runs_loop (fun j : Nat => cm2bL mr mp mt mi mu f wt hd j) (fun j => j ≤ (hd.to Int).length ∧ (List.range j).any (badH mi (wt.to Int) (hd.to Int)) = false) (fun j => (hd.to Int).length - j) (fun _ => rfl) ?_ 0 ⟨Nat.zero_le _, by simp⟩
 intro j ⟨hj, hpre⟩ ih
 apply exec_sound ctHOk 400
 rw [cm2b_go]
 refine ⟨fun hc => ?_, fun hc => ?_⟩
 ·simp [hl] at hc
  obtain ⟨c1, c2, c3⟩ := int_at hh hc
  have hg := getD_lt hc
  rw [c3]
  obtain ⟨s1, s2⟩ := hh.sub 0 (Int.toNat (j : Int))
  have s2 : (hd.sub 0 (Int.toNat (j : Int))).to Int = (hd.to Int).take j := by rw [s2]; simp
  have s3 : (hd.sub 0 (Int.toNat (j : Int))).len ≤ 1048576 := by rw [D.Is.length (α := Int), s2, List.length_take]; omega
  rw [s2]
  have s4 : 0 ≤ (0 : Int) ∧ (0 : Int) ≤ (j : Int) ∧ (j : Int) ≤ (hd.len : Int) ∧ hd.Fits 1 := ⟨by omega, by omega, by omega, hh.fits⟩
  have s5 : (hd.sub 0 (Int.toNat (j : Int))).Is Int ∧ (hd.sub 0 (Int.toNat (j : Int))).len ≤ 1048576 := ⟨s1, s3⟩
  have s6 : wt.Is Int ∧ wt.len ≤ 1048576 := ⟨hw, by omega⟩
  have bad : badH mi (wt.to Int) (hd.to Int) j = true → 3 = k := fun hb => by rw [hk, any_range hc hb]; rfl
  intro hs
  refine ⟨fun h1 => ?_, fun h1 => ⟨fun h2 => ?_, fun h2 => ⟨fun h3 => ?_, fun h3 => ?_⟩⟩⟩
  ·repeat' first | refine ⟨by assumption, ?_⟩ | fail
   exact ret_int (bad (by simp only [badH, hg, h1]; simp))
  ·repeat' first | refine ⟨by assumption, ?_⟩ | fail
   exact ret_int (bad (by simp only [badH, hg, h2]; simp))
  ·repeat' first | refine ⟨by assumption, ?_⟩ | fail
   exact ret_int (bad (by simp only [badH, hg, h3]; simp))
  ·repeat' first | refine ⟨by assumption, ?_⟩ | fail
   refine ⟨fun h4 => ret_int (bad (by simp only [badH, hg, h4]; simp)), fun h4 => ?_⟩
   have := ih (j + 1) ⟨hc, any_snoc hpre (by simp only [badH, hg, h1, h2, h3, h4]; rfl)⟩ (by omega)
   rw [← wrap_succ hc (by omega)] at this
   exact this
 ·simp [hl] at hc
  have : j = (hd.to Int).length := by omega
  subst this
  exact ret_int (by rw [hk, hpre]; rfl)

theorem cm2a_loop {H : HV} {mr mp mt mi mu : Int} {f : Bool} {wt hd : D} (hw : wt.Is Int) (hh : hd.Is Int) (lw : wt.len ≤ 1048575) (lh : hd.len ≤ 1048575) (w : World) (hhead : headMb ⟨mr, mp, mt, mi, f, mu, wt.to Int, hd.to Int⟩ = true) :
  Runs Try.prog ⟨w, H⟩ (cm2aL mr mp mt mi mu f wt hd 0) (RetS w H (.int .i64 (checkMb ⟨mr, mp, mt, mi, f, mu, wt.to Int, hd.to Int⟩))) := by
 have hk := cm_eq hhead
 simp only at hk
 have hl := D.Is.length (α := Int) wt
 refine runs_loop (fun j : Nat => cm2aL mr mp mt mi mu f wt hd j) (fun j => j ≤ (wt.to Int).length ∧ (List.range j).any (badW mi (wt.to Int)) = false) (fun j => (wt.to Int).length - j) (fun _ => rfl) ?_ 0 ⟨Nat.zero_le _, by simp⟩
 intro j ⟨hj, hpre⟩ ih
 apply exec_sound ctHOk 400
 rw [cm2a_go]
 refine ⟨fun hc => ?_, fun hc => ?_⟩
 ·simp [hl] at hc
  obtain ⟨c1, c2, c3⟩ := int_at hw hc
  have hg := getD_lt hc
  rw [c3]
  have bad : badW mi (wt.to Int) j = true → 3 = checkMb ⟨mr, mp, mt, mi, f, mu, wt.to Int, hd.to Int⟩ := fun hb => by rw [hk, any_range hc hb]; rfl
  have go : badW mi (wt.to Int) j = false → Runs Try.prog ⟨w, H⟩ (cm2aL mr mp mt mi mu f wt hd (IntKind.i64.wrap ((j : Int) + 1))) (RetS w H (.int .i64 (checkMb ⟨mr, mp, mt, mi, f, mu, wt.to Int, hd.to Int⟩))) := fun hb => by
   rw [wrap_succ hc (by omega)]
   exact ih (j + 1) ⟨hc, any_snoc hpre hb⟩ (by omega)
  intro hs
  refine ⟨fun h1 => ?_, fun h1 => ⟨fun h2 => ?_, fun h2 => ⟨fun h3 => ?_, fun h3 => ?_⟩⟩⟩
  ·repeat' first | refine ⟨by assumption, ?_⟩ | fail
   exact ret_int (bad (by simp only [badW, hg, h1]; simp))
  ·repeat' first | refine ⟨by assumption, ?_⟩ | fail
   exact ret_int (bad (by simp only [badW, hg, h2]; simp))
  ·have hj0 : 0 < j := by simpa using h3
   rw [wrap_pred hj0 (by omega)]
   have hc' : j - 1 < (wt.to Int).length := by omega
   obtain ⟨d1, d2, d3⟩ := int_at hw hc'
   have hg' := getD_lt hc'
   rw [d3]
   repeat' first | refine ⟨by assumption, ?_⟩ | fail
   refine ⟨fun h4 => ret_int (bad ?_), fun h4 => go ?_⟩
   ·simp only [badW, hg, hg', h4]; simp [hj0]
   ·simp only [badW, hg, hg', h1, h2, h4]; simp
  ·have hj0 : ¬ 0 < j := by simpa using h3
   repeat' first | refine ⟨by assumption, ?_⟩ | fail
   exact go (by simp only [badW, hg, h1, h2]; simp [hj0])
 ·simp [hl] at hc
  have : j = (wt.to Int).length := by omega
  subst this
  exact cm2b_loop hw hh lw lh w _ (by rw [hk, hpre]; rfl)

theorem lawCM1 : Law Try.prog 38 (rdMb.one.sp spCM) := by
 refine law_in _ (by kernel_rfl) fun H w ⟨r, p, t, i, f, u, wt, hd⟩ hok hp => ?_
 obtain ⟨hw, hh, lw, lh⟩ := hp _ (List.mem_singleton.2 rfl)
 simp only at hw hh lw lh
 clear hp hok
 have hl := D.Is.length (α := Int) hd
 apply exec_sound ctHOk 400
 rw [show rdMb.one.canon ⟨r, p, t, i, f, u, wt, hd⟩ = [.agg [.int .i64 r, .int .i64 p, .int .i64 t, .int .i64 i, .bool f, .int .i64 u, .dat wt, .dat hd]] from rfl, cm1_in]
 simp only [MbD.mb]
 have hb : headMb ⟨r, p, t, i, f, u, wt.to Int, hd.to Int⟩ = false → 3 = checkMb ⟨r, p, t, i, f, u, wt.to Int, hd.to Int⟩ := fun h => by rw [checkMb, if_pos h]
 have hh0 : (hd.to Int = []) ↔ hd.len = 0 := by rw [hl]; exact List.length_eq_zero_iff.symm
 repeat' first
  | refine ⟨fun hc => ?_, fun hc => ?_⟩
  | refine ret_int (hb ?_)
  | refine cm1a_loop hw hh lw lh w ?_
  | fail
 all_goals (clear hb; cases f <;> simp only [headMb, okTime, Bool.and_eq_false_imp, decide_eq_true_eq, decide_eq_false_iff_not, bne_iff_ne, ne_eq, bne_eq_false_iff_eq, Bool.not_eq_true', Bool.not_eq_false', Decidable.not_not, ge_iff_le, gt_iff_lt, hh0, reduceCtorEq, true_and, false_and, or_false, Bool.not_true, Bool.not_false] at * <;> first | omega | (simp_all; done) | (simp_all; omega))

theorem lawCM2 : Law Try.prog 39 (rdMb.one.sp spCM) := by
 refine law_in _ (by kernel_rfl) fun H w ⟨r, p, t, i, f, u, wt, hd⟩ hok hp => ?_
 obtain ⟨hw, hh, lw, lh⟩ := hp _ (List.mem_singleton.2 rfl)
 simp only at hw hh lw lh
 clear hp hok
 have hl := D.Is.length (α := Int) hd
 apply exec_sound ctHOk 400
 rw [show rdMb.one.canon ⟨r, p, t, i, f, u, wt, hd⟩ = [.agg [.int .i64 r, .int .i64 p, .int .i64 t, .int .i64 i, .bool f, .int .i64 u, .dat wt, .dat hd]] from rfl, cm2_in]
 simp only [MbD.mb]
 have hb : headMb ⟨r, p, t, i, f, u, wt.to Int, hd.to Int⟩ = false → 3 = checkMb ⟨r, p, t, i, f, u, wt.to Int, hd.to Int⟩ := fun h => by rw [checkMb, if_pos h]
 have hh0 : (hd.to Int = []) ↔ hd.len = 0 := by rw [hl]; exact List.length_eq_zero_iff.symm
 repeat' first
  | refine ⟨fun hc => ?_, fun hc => ?_⟩
  | refine ret_int (hb ?_)
  | refine cm2a_loop hw hh lw lh w ?_
  | fail
 all_goals (clear hb; cases f <;> simp only [headMb, okTime, Bool.and_eq_false_imp, decide_eq_true_eq, decide_eq_false_iff_not, bne_iff_ne, ne_eq, bne_eq_false_iff_eq, Bool.not_eq_true', Bool.not_eq_false', Decidable.not_not, ge_iff_le, gt_iff_lt, hh0, reduceCtorEq, true_and, false_and, or_false, Bool.not_true, Bool.not_false] at * <;> first | omega | (simp_all; done) | (simp_all; omega))
end Go.Proofs.Ytoechplbhbalaaa
end
section
open Go Go.Proofs Sx
namespace Go.Proofs.Ytoechplbhbalaaa
set_option maxRecDepth 100000
set_option maxHeartbeats 0
section
variable (n j now patience : Int) (a b d s wt hd : D) (frozen : Bool) (mr mp mt mi mu : Int) (mk mf mto mn mv me : Int) (ml mb : D) (nodes round phase deadline : Int) (valid : Bool)
theorem obey1_in : 
 let z1 : Tree := (.ret (SV.tup [.agg [.int .i64 mr, .int .i64 mp, .int .i64 mt, .int .i64 mi, .bool frozen, .int .i64 mu, .dat wt, .dat hd], .nils, .nils]))
 exec Try.prog ctM 800 (entry Try.prog 24 [.agg [.int .i64 mr, .int .i64 mp, .int .i64 mt, .int .i64 mi, .bool frozen, .int .i64 mu, .dat wt, .dat hd], .int .i64 now, .int .i64 patience, .agg [.int .i64 mk, .int .i64 mf, .int .i64 mto, .int .i64 mn, .int .i64 mv, .int .i64 me, .dat ml, .dat mb]]) =
 Tree.need (MbD.Right (MbD.mk mr mp mt mi frozen mu wt hd)) (.br (checkMb (MbD.mb (MbD.mk mr mp mt mi frozen mu wt hd)) != 0) z1 (.br (decide (mn < 1)) z1 (.br (decide (mn ≥ 0)) (.br (!decide (mn ≤ 1073741824)) z1
 (.all fun hs => .need (D.Is Int wt ∧ D.len wt ≤ 1048576) (.need (D.Is Int hd ∧ D.len hd ≤ 1048576) (.br (decide (mk = 1)) (.all fun hs_1 => .br (decide (mn > mr)) (.all fun hs_2 => .all fun hs_3 => .all fun hs_4 => .all fun hs_5 => .ret
 (SV.tup [.agg [.int .i64 mn, .int .i64 mi, .int .i64 mt, .int .i64 mi, .lb true, .int .i64 (if 1073741824 < IntKind.wrap .i64 ((if 1073741824 < if 0 > now then 0 else now then 1073741824 else if 0 > now then 0 else now) + if 1073741824 < if 1 > patience then 1 else patience then 1073741824 else if 1 > patience then 1 else patience) then 1073741824 else IntKind.wrap .i64
 ((if 1073741824 < if 0 > now then 0 else now then 1073741824 else if 0 > now then 0 else now) + if 1073741824 < if 1 > patience then 1 else patience then 1073741824 else if 1 > patience then 1 else patience)), .dat
 (D.slc (D.hd (hs 4 0)) 1 (D.rows wt)), .dat (D.slc (D.hd (hs 7 0)) 1 (D.rows hd))], .nils, .dat (D.slc (D.hd (hs_4 18 0)) 8 [[D.int .i64 2, D.int .i64 mto, D.int .i64 mf, D.int .i64 mn, D.int .i64 mi, D.int .i64 0, D.slc none 0 [], D.slc none 0 []]])]))
 (.all fun hs_2 => .br (decide (mn < mr)) (.need (decide (mn < mr) = true) (.need (decide (mn < mr) = true) (.need (decide (mn < mr) = true) (.need (decide (mn < mr) = true) (.need (decide (mn < mr) = true)
 (.need (decide (mn < mr) = true) (.need (decide (mn < mr) = true) (.all fun hs_3 => .ret (SV.tup [.agg [.int .i64 mr, .int .i64 mp, .int .i64 mt, .int .i64 mi, .bool frozen, .int .i64 mu, .dat (D.slc (D.hd
 (hs 4 0)) 1 (D.rows wt)), .dat (D.slc (D.hd (hs 7 0)) 1 (D.rows hd))], .nils, .nils]))))))))) (.need (decide (mn < mr) = false) (.need (decide (mn < mr) = false) (.need (decide (mn < mr) = false) (.need
 (decide (mn < mr) = false) (.need (decide (mn < mr) = false) (.need (decide (mn < mr) = false) (.need (decide (mn < mr) = false) (.br (!frozen) (.all fun hs_3 => .ret (SV.tup [.agg [.int .i64 mr, .int .i64 mp, .int .i64 mt, .int .i64 mi, .bool frozen, .int .i64 mu, .dat
 (D.slc (D.hd (hs 4 0)) 1 (D.rows wt)), .dat (D.slc (D.hd (hs 7 0)) 1 (D.rows hd))], .nils, .nils])) (.all fun hs_3 => .all fun hs_4 => .ret (SV.tup [.agg [.int .i64 mr, .int .i64 mp, .int .i64 mt, .int .i64 mi, .bool frozen, .int .i64 mu, .dat
 (D.slc (D.hd (hs 4 0)) 1 (D.rows wt)), .dat (D.slc (D.hd (hs 7 0)) 1 (D.rows hd))], .nils, .dat (D.slc (D.hd (hs_3 18 0)) 8 [[D.int .i64 2, D.int .i64 mto, D.int .i64 mf, D.int .i64 mn, D.int .i64 mp, D.int .i64 0, D.slc none 0 [], D.slc none 0 []]])]))))))))))))
 (.br (decide (mk = 3)) (.all fun hs_1 => .br (decide (mn < mr)) (.all fun hs_2 => .ret (SV.tup [.agg [.int .i64 mr, .int .i64 mp, .int .i64 mt, .int .i64 mi, .bool frozen, .int .i64 mu, .dat (D.slc (D.hd
 (hs 4 0)) 1 (D.rows wt)), .dat (D.slc (D.hd (hs 7 0)) 1 (D.rows hd))], .nils, .nils])) (.all fun hs_2 => .br (decide (mn > mr)) (.all fun hs_3 => .all fun hs_4 => .ret (SV.tup [.agg [.int .i64 mr, .int .i64 mp, .int .i64 mt, .int .i64 mi, .bool frozen, .int .i64 mu, .dat
 (D.slc (D.hd (hs 4 0)) 1 (D.rows wt)), .dat (D.slc (D.hd (hs 7 0)) 1 (D.rows hd))], .nils, .dat (D.slc (D.hd (hs_3 18 0)) 8 [[D.int .i64 4, D.int .i64 mto, D.int .i64 mf, D.int .i64 mn, D.int .i64 0, D.int .i64 0, D.slc none 0 [], D.slc none 0 []]])]))
 (.all fun hs_3 => .br frozen (.all fun hs_4 => .br (decide ((if 1073741824 < if 0 > now then 0 else now then 1073741824 else if 0 > now then 0 else now) < mu)) (.br (decide ((if 1073741824 < if 0 > now then 0 else now then 1073741824 else if 0 > now then 0 else now) < mu))
 (.all fun hs_5 => .all fun hs_6 => .ret (SV.tup [.agg [.int .i64 mr, .int .i64 mp, .int .i64 mr, .int .i64 mi, .lb false, .int .i64 mu, .dat (D.slc (D.hd (hs 4 0)) 1 (D.rows wt)), .nils], .dat (D.slc (D.hd
 (hs 7 0)) 1 (D.rows hd)), .dat (D.slc (D.hd (hs_5 18 0)) 8 [[D.int .i64 4, D.int .i64 mto, D.int .i64 mf, D.int .i64 mn, D.int .i64 1, D.int .i64 0, D.slc none 0 [], D.slc none 0 []]])])) (.all fun hs_5 => .all fun hs_6 => .ret
 (SV.tup [.agg [.int .i64 mr, .int .i64 mp, .int .i64 mr, .int .i64 mi, .lb false, .int .i64 mu, .dat (D.slc (D.hd (hs 4 0)) 1 (D.rows wt)), .nils], .dat (D.slc (D.hd (hs 7 0)) 1 (D.rows hd)), .dat (D.slc
 (D.hd (hs_5 18 0)) 8 [[D.int .i64 4, D.int .i64 mto, D.int .i64 mf, D.int .i64 mn, D.int .i64 0, D.int .i64 0, D.slc none 0 [], D.slc none 0 []]])]))) (.br (decide ((if 1073741824 < if 0 > now then 0 else now then 1073741824 else if 0 > now then 0 else now) < mu))
 (.all fun hs_5 => .all fun hs_6 => .ret (SV.tup [.agg [.int .i64 mr, .int .i64 mp, .int .i64 mt, .int .i64 mi, .lb false, .int .i64 mu, .dat (D.slc (D.hd (hs 4 0)) 1 (D.rows wt)), .nils], .dat (D.slc (D.hd
 (hs 7 0)) 1 (D.rows hd)), .dat (D.slc (D.hd (hs_5 18 0)) 8 [[D.int .i64 4, D.int .i64 mto, D.int .i64 mf, D.int .i64 mn, D.int .i64 1, D.int .i64 0, D.slc none 0 [], D.slc none 0 []]])])) (.all fun hs_5 => .all fun hs_6 => .ret
 (SV.tup [.agg [.int .i64 mr, .int .i64 mp, .int .i64 mt, .int .i64 mi, .lb false, .int .i64 mu, .dat (D.slc (D.hd (hs 4 0)) 1 (D.rows wt)), .nils], .dat (D.slc (D.hd (hs 7 0)) 1 (D.rows hd)), .dat (D.slc
 (D.hd (hs_5 18 0)) 8 [[D.int .i64 4, D.int .i64 mto, D.int .i64 mf, D.int .i64 mn, D.int .i64 0, D.int .i64 0, D.slc none 0 [], D.slc none 0 []]])])))) (.br (decide (mt = mr)) (.all fun hs_4 => .all fun hs_5 => .ret
 (SV.tup [.agg [.int .i64 mr, .int .i64 mp, .int .i64 mt, .int .i64 mi, .bool frozen, .int .i64 mu, .dat (D.slc (D.hd (hs 4 0)) 1 (D.rows wt)), .dat (D.slc (D.hd (hs 7 0)) 1 (D.rows hd))], .nils, .dat (D.slc
 (D.hd (hs_4 18 0)) 8 [[D.int .i64 4, D.int .i64 mto, D.int .i64 mf, D.int .i64 mn, D.int .i64 1, D.int .i64 0, D.slc none 0 [], D.slc none 0 []]])])) (.all fun hs_4 => .all fun hs_5 => .ret (SV.tup [.agg [.int .i64 mr, .int .i64 mp, .int .i64 mt, .int .i64 mi, .bool frozen, .int .i64 mu, .dat
 (D.slc (D.hd (hs 4 0)) 1 (D.rows wt)), .dat (D.slc (D.hd (hs 7 0)) 1 (D.rows hd))], .nils, .dat (D.slc (D.hd (hs_4 18 0)) 8 [[D.int .i64 4, D.int .i64 mto, D.int .i64 mf, D.int .i64 mn, D.int .i64 0, D.int .i64 0, D.slc none 0 [], D.slc none 0 []]])]))))))
 (.br (decide (mk = 24)) (.all fun hs_1 => .br (decide (mn = mr)) (.need (decide (mn = mr) = true) (.need (decide (mn = mr) = true) (.need (decide (mn = mr) = true) (.need (decide (mn = mr) = true) (.need
 (decide (mn = mr) = true) (.need (decide (mn = mr) = true) (.br frozen (.all fun hs_2 => .ret (SV.tup [.agg [.int .i64 mr, .int .i64 mp, .int .i64 mt, .int .i64 mi, .lb false, .int .i64 mu, .dat (D.slc
 (D.hd (hs 4 0)) 1 (D.rows wt)), .nils], .dat (D.slc (D.hd (hs 7 0)) 1 (D.rows hd)), .nils])) (.all fun hs_2 => .ret (SV.tup [.agg [.int .i64 mr, .int .i64 mp, .int .i64 mt, .int .i64 mi, .bool frozen, .int .i64 mu, .dat
 (D.slc (D.hd (hs 4 0)) 1 (D.rows wt)), .dat (D.slc (D.hd (hs 7 0)) 1 (D.rows hd))], .nils, .nils]))))))))) (.need (decide (mn = mr) = false) (.need (decide (mn = mr) = false) (.need (decide (mn = mr) = false)
 (.need (decide (mn = mr) = false) (.need (decide (mn = mr) = false) (.need (decide (mn = mr) = false) (.all fun hs_2 => .ret (SV.tup [.agg [.int .i64 mr, .int .i64 mp, .int .i64 mt, .int .i64 mi, .bool frozen, .int .i64 mu, .dat
 (D.slc (D.hd (hs 4 0)) 1 (D.rows wt)), .dat (D.slc (D.hd (hs 7 0)) 1 (D.rows hd))], .nils, .nils]))))))))) z1)))))) z1))) := by
 intros; kernel_rfl

theorem iss1_in : exec Try.prog ctM 600 (entry Try.prog 36 [.agg [.int .i64 mr, .int .i64 mp, .int .i64 mt, .int .i64 mi, .bool frozen, .int .i64 mu, .dat wt, .dat hd]]) =
 Tree.need (MbD.Right (MbD.mk mr mp mt mi frozen mu wt hd))
 (.br (checkMb (MbD.mb (MbD.mk mr mp mt mi frozen mu wt hd)) != 0)
 (.ret
 (SV.tup
 [.agg
 [.int .i64 mr, .int .i64 mp, .int .i64 mt, .int .i64 mi, .bool frozen,
 .int .i64 mu, .dat wt, .dat hd],
 .int .i64 (Int.neg 1)]))
 (.br (decide (mi = 4096))
 (.ret
 (SV.tup
 [.agg
 [.int .i64 mr, .int .i64 mp, .int .i64 mt, .int .i64 mi,
 .bool frozen, .int .i64 mu, .dat wt, .dat hd],
 .int .i64 (Int.neg 1)]))
 (.need (D.Is Int wt ∧ D.len wt ≤ 1048576)
 (.all fun hs =>
 .all fun hs_1 =>
 .need
 (D.sz (D.slc (D.hd (hs 0 0)) 1 (D.rows wt)) = 1 ∧
 D.Fits (D.slc (D.hd (hs_1 0 0)) 1 [[D.int .i64 mi]]) 1 ∧
 (D.len (D.slc (D.hd (hs 0 0)) 1 (D.rows wt)) +
 D.len (D.slc (D.hd (hs_1 0 0)) 1 [[D.int .i64 mi]])) *
 8 ≤
 140737488355328 ∧
 D.len (D.slc (D.hd (hs 0 0)) 1 (D.rows wt)) +
 D.len (D.slc (D.hd (hs_1 0 0)) 1 [[D.int .i64 mi]]) ≤
 9223372036854775807)
 (.all fun hs_2 =>
 .ret
 (SV.tup
 [.agg
 [.int .i64 mr, .int .i64 mp, .int .i64 mt,
 .int .i64 (IntKind.wrap .i64 (mi + 1)), .bool frozen, .int .i64 mu,
 .dat
 (D.slc (D.hd (hs_2 0 0)) 1
 (List.append (D.rows (D.slc (D.hd (hs 0 0)) 1 (D.rows wt)))
 (D.rows (D.slc (D.hd (hs_1 0 0)) 1 [[D.int .i64 mi]])))),
 .dat hd],
 .int .i64 mi])))))) := by kernel_rfl

theorem iss2_in : exec Try.prog ctM 600 (entry Try.prog 37 [.agg [.int .i64 mr, .int .i64 mp, .int .i64 mt, .int .i64 mi, .bool frozen, .int .i64 mu, .dat wt, .dat hd]]) =
 Tree.need (MbD.Right (MbD.mk mr mp mt mi frozen mu wt hd))
 (.br (checkMb (MbD.mb (MbD.mk mr mp mt mi frozen mu wt hd)) != 0)
 (.ret
 (SV.tup
 [.agg
 [.int .i64 mr, .int .i64 mp, .int .i64 mt, .int .i64 mi, .bool frozen,
 .int .i64 mu, .dat wt, .dat hd],
 .int .i64 (Int.neg 1)]))
 (.br (decide (mi = 4096))
 (.ret
 (SV.tup
 [.agg
 [.int .i64 mr, .int .i64 mp, .int .i64 mt, .int .i64 mi,
 .bool frozen, .int .i64 mu, .dat wt, .dat hd],
 .int .i64 (Int.neg 1)]))
 (.all fun hs =>
 .need
 (D.sz (D.slc (D.hd (hs 0 0)) 1 []) = 1 ∧
 D.Fits wt 1 ∧
 (D.len (D.slc (D.hd (hs 0 0)) 1 []) + D.len wt) * 8 ≤ 140737488355328 ∧
 D.len (D.slc (D.hd (hs 0 0)) 1 []) + D.len wt ≤ 9223372036854775807)
 (.all fun hs_1 =>
 .all fun hs_2 =>
 .need
 (D.sz (D.slc (D.hd (hs_1 0 0)) 1 (List.append (D.rows (D.slc (D.hd (hs 0 0)) 1 [])) (D.rows wt))) = 1 ∧
 D.Fits (D.slc (D.hd (hs_2 0 0)) 1 [[D.int .i64 mi]]) 1 ∧
 (D.len (D.slc (D.hd (hs_1 0 0)) 1 (List.append (D.rows (D.slc (D.hd (hs 0 0)) 1 [])) (D.rows wt))) +
 D.len (D.slc (D.hd (hs_2 0 0)) 1 [[D.int .i64 mi]])) *
 8 ≤
 140737488355328 ∧
 D.len
 (D.slc (D.hd (hs_1 0 0)) 1
 (List.append (D.rows (D.slc (D.hd (hs 0 0)) 1 [])) (D.rows wt))) +
 D.len (D.slc (D.hd (hs_2 0 0)) 1 [[D.int .i64 mi]]) ≤
 9223372036854775807)
 (.all fun hs_3 =>
 .ret
 (SV.tup
 [.agg
 [.int .i64 mr, .int .i64 mp, .int .i64 mt,
 .int .i64 (IntKind.wrap .i64 (mi + 1)), .bool frozen,
 .int .i64 mu,
 .dat
 (D.slc (D.hd (hs_3 0 0)) 1
 (List.append
 (D.rows
 (D.slc (D.hd (hs_1 0 0)) 1
 (List.append (D.rows (D.slc (D.hd (hs 0 0)) 1 [])) (D.rows wt))))
 (D.rows (D.slc (D.hd (hs_2 0 0)) 1 [[D.int .i64 mi]])))),
 .dat hd],
 .int .i64 mi])))))) := by kernel_rfl

theorem exp1_in : exec Try.prog ctM 600 (entry Try.prog 29 [.agg [.int .i64 nodes, .int .i64 round, .int .i64 phase, .int .i64 deadline, .dat d, .dat s, .bool valid], .int .i64 now]) =
 Tree.need (D.Is Int d ∧ D.Is Bool s)
 (.br (checkCo (CoD.co (CoD.mk nodes round phase deadline d s valid)) != 0)
 (.ret
 (SV.tup
 [.agg
 [.int .i64 nodes, .int .i64 round, .int .i64 phase, .int .i64 deadline,
 .dat d, .dat s, .bool valid],
 .nils]))
 (.br (decide (phase = 0))
 (.ret
 (SV.tup
 [.agg
 [.int .i64 nodes, .int .i64 round, .int .i64 phase,
 .int .i64 deadline, .dat d, .dat s, .bool valid],
 .nils]))
 (.br (decide (now < deadline))
 (.ret
 (SV.tup
 [.agg
 [.int .i64 nodes, .int .i64 round, .int .i64 phase,
 .int .i64 deadline, .dat d, .dat s, .bool valid],
 .nils]))
 (.all fun hs =>
 .need (D.Is Int d ∧ D.len d ≤ 1048576)
 (.need (D.Is Bool s ∧ D.len s ≤ 1048576)
 (.need (nodes ≤ 8)
 (.all fun hs_1 =>
 .ret
 (SV.tup
 [.agg
 [.int .i64 nodes, .int .i64 round, .int .i64 0,
 .int .i64 deadline, .dat (D.slc (D.hd (hs 2 0)) 1 (D.rows d)),
 .dat (D.slc (D.hd (hs 5 0)) 1 (D.rows s)), .lb false],
 .dat (D.like (hs_1 0 0) (msgsTo nodes round 24))])))))))) := by kernel_rfl

theorem exp2_in : exec Try.prog ctM 600 (entry Try.prog 30 [.agg [.int .i64 nodes, .int .i64 round, .int .i64 phase, .int .i64 deadline, .dat d, .dat s, .bool valid], .int .i64 now]) =
 Tree.need (D.Is Int d ∧ D.Is Bool s)
 (.br (checkCo (CoD.co (CoD.mk nodes round phase deadline d s valid)) != 0)
 (.ret
 (SV.tup
 [.agg
 [.int .i64 nodes, .int .i64 round, .int .i64 phase, .int .i64 deadline,
 .dat d, .dat s, .bool valid],
 .nils]))
 (.br (decide (phase = 0))
 (.ret
 (SV.tup
 [.agg
 [.int .i64 nodes, .int .i64 round, .int .i64 phase,
 .int .i64 deadline, .dat d, .dat s, .bool valid],
 .nils]))
 (.br (decide (now < deadline))
 (.ret
 (SV.tup
 [.agg
 [.int .i64 nodes, .int .i64 round, .int .i64 phase,
 .int .i64 deadline, .dat d, .dat s, .bool valid],
 .nils]))
 (.need (D.Is Int d ∧ D.Is Bool s ∧ nodes ≤ 8)
 (.all fun hs =>
 .ret
 (SV.tup
 [.agg
 [.int .i64 nodes, .int .i64 round, .int .i64 0,
 .int .i64 deadline, .dat (D.like (hs 0 0) (D.to Int d)),
 .dat (D.like (hs 0 1) (D.to Bool s)), .bool false],
 .dat (D.like (hs 0 2) (msgsTo nodes round 24))])))))) := by kernel_rfl

end
end Go.Proofs.Ytoechplbhbalaaa
end
section
open Go Go.Proofs Sx
namespace Go.Proofs.Ytoechplbhbalaaa
set_option maxRecDepth 100000
set_option maxHeartbeats 0
section
variable (n j now patience : Int) (a b d s wt hd : D) (frozen : Bool) (mr mp mt mi mu : Int) (mk mf mto mn mv me : Int) (ml mb : D) (nodes round phase deadline : Int) (valid : Bool)
theorem obey2_in : 
 let z2 : List SV := [.int .i64 mr, .int .i64 mp, .int .i64 mt, .int .i64 mi, .bool frozen, .int .i64 mu, .dat wt, .dat hd]
 let z4 := (endMb (MbD.mb (MbD.mk mr mp mt mi frozen mu wt hd)) (if 1073741824 < if 0 > now then 0 else now then 1073741824 else if 0 > now then 0 else now) (MsgD.msg (MsgD.mk mk mf mto mn mv me ml mb)))
 let z5 : Tree := (.br (decide (mk = 24)) (.br (decide (mn = mr)) (.br frozen (.need (MbD.Right (MbD.mk mr mp mt mi frozen mu wt hd)) (.all fun hs => .ret (SV.tup [.agg [.int .i64 mr, .int .i64 mp, .int .i64 mt, .int .i64 mi, .bool false, .int .i64 mu, .dat (D.like (hs 0 0) (D.to Int wt)), .dat (D.like (hs 0 1) ([] : List Int))], .dat (D.like (hs 0 2) (D.to Int hd)), .nils]))) (.ret (SV.tup [.agg z2, .nils, .nils]))) (.ret (SV.tup [.agg z2, .nils, .nils]))) (.ret (SV.tup [.agg z2, .nils, .nils])))
 let z6 : Tree := (.br (decide (mk = 3)) (.br (decide (mn > mr)) (.all fun hs => .ret (SV.tup [.agg z2, .nils, .dat (D.like (hs 2 0) (ansTo (MsgD.msg (MsgD.mk mk mf mto mn mv me ml mb)) 4 0))])) z5) z5)
 let z1 : Tree := (.br (decide (mk = 3)) (.br (decide (mn = mr)) (.need (MbD.Right (MbD.mk mr mp mt mi frozen mu wt hd)) (.all fun hs => .ret (SV.tup [.agg [.int .i64 (Mb.round (Prod.fst z4)), .int .i64 (Mb.position (Prod.fst z4)), .int .i64 (Mb.thawed (Prod.fst z4)), .int .i64 (Mb.issued (Prod.fst z4)), .bool (Mb.frozen (Prod.fst z4)), .int .i64 (Mb.upto (Prod.fst z4)), .dat (D.like (hs 0 0) (Mb.waiting (Prod.fst z4))), .dat (D.like (hs 0 1) (Mb.held (Prod.fst z4)))], .dat (D.like (hs 0 2) (Prod.fst (Prod.snd z4))), .dat (D.like (hs 0 3) (Prod.snd (Prod.snd z4)))]))) z6) z6)
 let z3 : Tree := (.br (decide (mk = 1)) (.br (decide (mn = mr)) (.br frozen (.all fun hs => .ret (SV.tup [.agg z2, .nils, .dat (D.like (hs 4 0) (ansTo (MsgD.msg (MsgD.mk mk mf mto mn mv me ml mb)) 2 mp))])) z1) z1) z1)
 exec Try.prog ctM 800 (entry Try.prog 25 [.agg [.int .i64 mr, .int .i64 mp, .int .i64 mt, .int .i64 mi, .bool frozen, .int .i64 mu, .dat wt, .dat hd], .int .i64 now, .int .i64 patience, .agg [.int .i64 mk, .int .i64 mf, .int .i64 mto, .int .i64 mn, .int .i64 mv, .int .i64 me, .dat ml, .dat mb]]) =
 Tree.need (MbD.Right (MbD.mk mr mp mt mi frozen mu wt hd)) (.br (checkMb (MbD.mb (MbD.mk mr mp mt mi frozen mu wt hd)) != 0) (.ret (SV.tup [.agg z2, .nils, .nils])) (.br (decide (mn < 1)) (.ret (SV.tup [.agg z2, .nils, .nils]))
 (.br (decide (mn > 1073741824)) (.ret (SV.tup [.agg z2, .nils, .nils])) (.br (decide (mk = 1)) (.br (decide (mn > mr)) (.all fun hs => .ret (SV.tup [.agg [.int .i64 mn, .int .i64 mi, .int .i64 mt, .int .i64 mi, .lb true, .int .i64
 (if 1073741824 < IntKind.wrap .i64 ((if 1073741824 < if 0 > now then 0 else now then 1073741824 else if 0 > now then 0 else now) + if 1073741824 < if 1 > patience then 1 else patience then 1073741824 else if 1 > patience then 1 else patience) then 1073741824 else IntKind.wrap .i64
 ((if 1073741824 < if 0 > now then 0 else now then 1073741824 else if 0 > now then 0 else now) + if 1073741824 < if 1 > patience then 1 else patience then 1073741824 else if 1 > patience then 1 else patience)), .dat wt, .dat hd], .nils, .dat
 (D.like (hs 4 0) (ansTo (MsgD.msg (MsgD.mk mk mf mto mn mv me ml mb)) 2 mi))])) z3) z3)))) := by
 intros; kernel_rfl

end
end Go.Proofs.Ytoechplbhbalaaa
end
section
open Go Go.Proofs Sx
namespace Sx

theorem clampT_eq {lo n : Int} : (if 1073741824 < (if lo > n then lo else n) then 1073741824 else if lo > n then lo else n) = clampT lo n := by
 unfold clampT
 split <;> split at * <;> omega

theorem clampT_le (lo n : Int) : clampT lo n ≤ 1073741824 := by unfold clampT; omega
theorem clampT_ge {lo n : Int} (h : lo ≤ 1073741824) : lo ≤ clampT lo n := by unfold clampT; omega

theorem upto_eq {now patience : Int} : (if 1073741824 < IntKind.wrap .i64 (clampT 0 now + clampT 1 patience) then 1073741824 else IntKind.wrap .i64 (clampT 0 now + clampT 1 patience)) = min (clampT 0 now + clampT 1 patience) 1073741824 := by
 have h1 := clampT_le 0 now
 have h2 := clampT_le 1 patience
 have h3 := clampT_ge (lo := 0) (n := now) (by omega)
 have h4 := clampT_ge (lo := 1) (n := patience) (by omega)
 rw [wrap64 (by omega) (by omega)]
 split <;> omega
theorem issue_bad {m : Mb} (h : ¬checkMb m = 0 ∨ m.issued = 4096) : issueMb m = (m, -1) := by rw [issueMb, if_pos h]
theorem issue_ok {m : Mb} (h : checkMb m = 0) (h2 : ¬m.issued = 4096) : issueMb m = (⟨m.round, m.position, m.thawed, m.issued + 1, m.frozen, m.upto, m.waiting ++ [m.issued], m.held⟩, m.issued) := by
 rw [issueMb, if_neg (by simp [h, h2])]
theorem checkMb_issued {m : Mb} (h : checkMb m = 0) : 0 ≤ m.issued ∧ m.issued ≤ 4096 := by
 unfold checkMb at h
 split at h
 ·cases h
 ·rename_i hh
  simp only [headMb, Bool.not_eq_false, decide_eq_true_eq] at hh
  omega
theorem exp_bad {c : Co} {now : Int} (h : ¬checkCo c = 0 ∨ c.phase = 0 ∨ now < c.deadline) : expireCo c now = (c, []) := by rw [expireCo, if_pos h]
theorem exp_ok {c : Co} {now : Int} (h : checkCo c = 0) (h2 : ¬c.phase = 0) (h3 : ¬now < c.deadline) : expireCo c now = (⟨c.nodes, c.round, 0, c.deadline, c.positions, c.seen, false⟩, msgsTo c.nodes c.round 24) := by
 rw [expireCo, if_neg (by simp [h, h2]; omega)]; rfl
end Sx

namespace Go.Proofs.Ytoechplbhbalaaa
set_option maxRecDepth 100000
set_option maxHeartbeats 0

theorem ctMOk : Ctrs.Ok Try.prog ctM := by
 intro x hx
 simp only [ctM, List.mem_cons] at hx
 rcases hx with rfl | rfl | rfl | rfl | rfl | rfl | rfl | rfl | rfl | hx
 ·exact ctrOf_ok lawCM1
 ·exact ctrOf_ok lawCM2
 ·exact ctrOf_ok lawCont
 ·exact ctrOf_ok lawHas
 ·exact ctrOf_ok lawAns
 ·exact ctrOf_ok lawEnd
 ·exact ctrOf_ok lawThaw
 ·exact ctrOf_ok lawEvery
 ·exact ctrOf_ok lawGive
 ·exact ctBOk _ hx

theorem lawObey1 : Law Try.prog 24 ((rdMb.four rdInt rdInt rdMsg).sp spObey) := by
 refine law_in _ (by kernel_rfl) fun H w ⟨⟨r, p, t, i, f, u, wt, hd⟩, now, pat, ⟨mk, mf, mto, mn, mv, me, ml, mb⟩⟩ hok hp => ?_
 have hR := hp _ (List.mem_singleton.2 rfl)
 have hR' := hR
 obtain ⟨hw, hh, lw, lh⟩ := hR
 simp only at hw hh lw lh
 clear hp hok
 have hw2 : wt.Is Int ∧ wt.len ≤ 1048576 := ⟨hw, by omega⟩
 have hh2 : hd.Is Int ∧ hd.len ≤ 1048576 := ⟨hh, by omega⟩
 apply exec_sound ctMOk 800
 rw [show (rdMb.four rdInt rdInt rdMsg).canon (⟨r, p, t, i, f, u, wt, hd⟩, now, pat, ⟨mk, mf, mto, mn, mv, me, ml, mb⟩) = [.agg [.int .i64 r, .int .i64 p, .int .i64 t, .int .i64 i, .bool f, .int .i64 u, .dat wt, .dat hd], .int .i64 now, .int .i64 pat, .agg [.int .i64 mk, .int .i64 mf, .int .i64 mto, .int .i64 mn, .int .i64 mv, .int .i64 me, .dat ml, .dat mb]] from rfl, obey1_in]
 have hq : ∃ q, checkMb (MbD.mb ⟨r, p, t, i, f, u, wt, hd⟩) = q ∧ checkMb ⟨r, p, t, i, f, u, wt.to Int, hd.to Int⟩ = q := ⟨_, rfl, rfl⟩
 obtain ⟨q, hq, hq'⟩ := hq
 simp only [clampT_eq, upto_eq, hq]
 simp only [MbD.mb, MsgD.msg]
 clear hq
 refine ⟨hR', ?_⟩
 clear hR'
 repeat' first
  | refine ⟨fun hc => ?_, fun hc => ?_⟩
  | refine ⟨by assumption, ?_⟩
  | with_reducible refine holds_all.2 fun hs => ?_
  | fail
 all_goals (
  apply ret_mb3
  case hf => first | exact fun _ => rfl | exact lb_den
  case hw => first | exact stands_self hw | exact stands_rows rfl (rows_of hw) | exact stands_nils
  case hh => first | exact stands_self hh | exact stands_rows rfl (rows_of hh) | exact stands_nils
  case hx => first | exact stands_self hh | exact stands_rows rfl (rows_of hh) | exact stands_nils
  case hy => first | exact stands_nils | exact stands_rows rfl (msg_row' rfl))
 all_goals (unfold obeyMb; simp only [hq']; clear hq' hw hh lw lh hw2 hh2)
 all_goals (simp only [endMb, ansTo, gt_iff_lt, ge_iff_le, decide_eq_true_eq, decide_eq_false_iff_not, bne_iff_ne, ne_eq, bne_eq_false_iff_eq, Bool.not_eq_true', Bool.not_eq_false', Decidable.not_not] at *)
 all_goals (cases f <;> (try simp only [reduceCtorEq] at *) <;> (repeat' split) <;> first | rfl | (exfalso; omega) | (exfalso; simp only [and_true, and_false] at *; done) | (exfalso; simp only [and_true, and_false] at *; omega) | skip)
theorem lawObey2 : Law Try.prog 25 ((rdMb.four rdInt rdInt rdMsg).sp spObey) := by
 refine law_in _ (by kernel_rfl) fun H w ⟨⟨r, p, t, i, f, u, wt, hd⟩, now, pat, ⟨mk, mf, mto, mn, mv, me, ml, mb⟩⟩ hok hp => ?_
 have hR := hp _ (List.mem_singleton.2 rfl)
 have hR' := hR
 obtain ⟨hw, hh, lw, lh⟩ := hR
 simp only at hw hh lw lh
 clear hp hok
 have hw2 : wt.Is Int ∧ wt.len ≤ 1048576 := ⟨hw, by omega⟩
 have hh2 : hd.Is Int ∧ hd.len ≤ 1048576 := ⟨hh, by omega⟩
 apply exec_sound ctMOk 800
 rw [show (rdMb.four rdInt rdInt rdMsg).canon (⟨r, p, t, i, f, u, wt, hd⟩, now, pat, ⟨mk, mf, mto, mn, mv, me, ml, mb⟩) = [.agg [.int .i64 r, .int .i64 p, .int .i64 t, .int .i64 i, .bool f, .int .i64 u, .dat wt, .dat hd], .int .i64 now, .int .i64 pat, .agg [.int .i64 mk, .int .i64 mf, .int .i64 mto, .int .i64 mn, .int .i64 mv, .int .i64 me, .dat ml, .dat mb]] from rfl, obey2_in]
 have hq : ∃ q, checkMb (MbD.mb ⟨r, p, t, i, f, u, wt, hd⟩) = q ∧ checkMb ⟨r, p, t, i, f, u, wt.to Int, hd.to Int⟩ = q := ⟨_, rfl, rfl⟩
 obtain ⟨q, hq, hq'⟩ := hq
 simp only [clampT_eq, upto_eq, hq]
 simp only [MbD.mb, MsgD.msg]
 clear hq
 refine ⟨hR', ?_⟩
 repeat' first
  | refine ⟨fun hc => ?_, fun hc => ?_⟩
  | refine ⟨by assumption, ?_⟩
  | with_reducible refine holds_all.2 fun hs => ?_
  | fail
 all_goals (
  apply ret_mb3
  case hf => first | exact fun _ => rfl | exact lb_den
  case hw => first | exact stands_like | exact stands_self hw | exact stands_rows rfl (rows_of hw) | exact stands_nils
  case hh => first | exact stands_like | exact stands_self hh | exact stands_rows rfl (rows_of hh) | exact stands_nils
  case hx => first | exact stands_like | exact stands_self hh | exact stands_rows rfl (rows_of hh) | exact stands_nils
  case hy => first | exact stands_like | exact stands_nils | exact stands_rows rfl (msg_row' rfl))
 all_goals (unfold obeyMb; simp only [hq']; clear hq' hw hh lw lh hw2 hh2 hR')
 all_goals (simp only [gt_iff_lt, ge_iff_le, decide_eq_true_eq, decide_eq_false_iff_not, bne_iff_ne, ne_eq, bne_eq_false_iff_eq, Bool.not_eq_true', Bool.not_eq_false', Decidable.not_not] at *)
 all_goals (cases f <;> (try simp only [reduceCtorEq] at *) <;> (repeat' split) <;> first | rfl | (exfalso; omega) | (exfalso; simp only [and_true, and_false] at *; done) | (exfalso; simp only [and_true, and_false] at *; omega) | skip)

theorem lawIssue1 : Law Try.prog 36 (rdMb.one.sp spIssue) := by
 refine law_in _ (by kernel_rfl) fun H w ⟨r, p, t, i, f, u, wt, hd⟩ hok hp => ?_
 have hR := hp _ (List.mem_singleton.2 rfl)
 have hR' := hR
 obtain ⟨hw, hh, lw, lh⟩ := hR
 simp only at hw hh lw lh
 have hl := D.Is.length (α := Int) wt
 have hl2 := rows_len (rows_of hw)
 clear hp hok
 apply exec_sound ctMOk 600
 rw [show rdMb.one.canon ⟨r, p, t, i, f, u, wt, hd⟩ = [.agg [.int .i64 r, .int .i64 p, .int .i64 t, .int .i64 i, .bool f, .int .i64 u, .dat wt, .dat hd]] from rfl, iss1_in]
 refine ⟨hR', fun hc => ?_, fun hc => ⟨fun hc2 => ?_, fun hc2 => ⟨⟨hw, by omega⟩, fun hs hs1 => ⟨?_, fun hs2 => ?_⟩⟩⟩⟩
 ·simp only [bne_iff_ne, ne_eq] at hc
  exact ret_mbI (fun _ => rfl) (stands_self hw) (stands_self hh) (issue_bad (.inl hc))
 ·simp only [decide_eq_true_eq] at hc2
  exact ret_mbI (fun _ => rfl) (stands_self hw) (stands_self hh) (issue_bad (.inr hc2))
 ·exact ⟨rfl, .inr rfl, by simp only [len_slc, List.length_cons, List.length_nil]; omega, by simp only [len_slc, List.length_cons, List.length_nil]; omega⟩
 ·simp only [bne_eq_false_iff_eq] at hc
  simp only [decide_eq_false_iff_not] at hc2
  have hi : 0 ≤ i ∧ i ≤ 4096 := checkMb_issued hc
  have hr : SRows Int (List.append (D.rows wt) [[.int .i64 i]]) (wt.to Int ++ [i]) := rows_app (rows_of hw) (rows_one ⟨_, rfl⟩ rfl)
  rw [wrap64 (by omega) (by omega)]
  exact ret_mbI (fun _ => rfl) (stands_rows rfl hr) (stands_self hh) (issue_ok hc hc2)

theorem lawIssue2 : Law Try.prog 37 (rdMb.one.sp spIssue) := by
 refine law_in _ (by kernel_rfl) fun H w ⟨r, p, t, i, f, u, wt, hd⟩ hok hp => ?_
 have hR := hp _ (List.mem_singleton.2 rfl)
 have hR' := hR
 obtain ⟨hw, hh, lw, lh⟩ := hR
 simp only at hw hh lw lh
 have hl := D.Is.length (α := Int) wt
 have hl2 := rows_len (rows_of hw)
 clear hp hok
 apply exec_sound ctMOk 600
 rw [show rdMb.one.canon ⟨r, p, t, i, f, u, wt, hd⟩ = [.agg [.int .i64 r, .int .i64 p, .int .i64 t, .int .i64 i, .bool f, .int .i64 u, .dat wt, .dat hd]] from rfl, iss2_in]
 refine ⟨hR', fun hc => ?_, fun hc => ⟨fun hc2 => ?_, fun hc2 hs => ⟨⟨rfl, hw.fits, by simp only [len_slc, List.length_nil]; omega, by simp only [len_slc, List.length_nil]; omega⟩, fun hs1 hs2 => ⟨?_, fun hs3 => ?_⟩⟩⟩⟩
 ·simp only [bne_iff_ne, ne_eq] at hc
  exact ret_mbI (fun _ => rfl) (stands_self hw) (stands_self hh) (issue_bad (.inl hc))
 ·simp only [decide_eq_true_eq] at hc2
  exact ret_mbI (fun _ => rfl) (stands_self hw) (stands_self hh) (issue_bad (.inr hc2))
 ·have e : (List.append (D.rows (D.slc (D.hd (hs 0 0)) 1 [])) (D.rows wt)).length = wt.rows.length := rfl
  exact ⟨rfl, .inr rfl, by simp only [len_slc, e, List.length_cons, List.length_nil]; omega, by simp only [len_slc, e, List.length_cons, List.length_nil]; omega⟩
 ·simp only [bne_eq_false_iff_eq] at hc
  simp only [decide_eq_false_iff_not] at hc2
  have hi : 0 ≤ i ∧ i ≤ 4096 := checkMb_issued hc
  have hr : SRows Int (List.append (D.rows wt) [[.int .i64 i]]) (wt.to Int ++ [i]) := rows_app (rows_of hw) (rows_one ⟨_, rfl⟩ rfl)
  rw [wrap64 (by omega) (by omega)]
  exact ret_mbI (fun _ => rfl) (stands_rows rfl hr) (stands_self hh) (issue_ok hc hc2)

theorem lawExp1 : Law Try.prog 29 ((rdCo.two rdInt).sp spExp) := by
 refine law_in _ (by kernel_rfl) fun H w ⟨⟨n, r, p, dl, d, s, v⟩, now⟩ hok hp => ?_
 obtain ⟨hd, hs⟩ := hp _ (List.mem_singleton.2 rfl)
 simp only at hd hs
 apply exec_sound ctMOk 600
 rw [show (rdCo.two rdInt).canon (⟨n, r, p, dl, d, s, v⟩, now) = [.agg [.int .i64 n, .int .i64 r, .int .i64 p, .int .i64 dl, .dat d, .dat s, .bool v], .int .i64 now] from rfl, exp1_in]
 refine ⟨⟨hd, hs⟩, fun hc => ?_, fun hc => ⟨fun hc2 => ?_, fun hc2 => ⟨fun hc3 => ?_, fun hc3 h1 => ?_⟩⟩⟩
 ·simp only [bne_iff_ne, ne_eq] at hc
  exact ret_co2 (stands_self hd) (stands_self hs) (fun _ => rfl) stands_nils (exp_bad (.inl hc))
 ·simp only [decide_eq_true_eq] at hc2
  exact ret_co2 (stands_self hd) (stands_self hs) (fun _ => rfl) stands_nils (exp_bad (.inr (.inl hc2)))
 ·simp only [decide_eq_true_eq] at hc3
  exact ret_co2 (stands_self hd) (stands_self hs) (fun _ => rfl) stands_nils (exp_bad (.inr (.inr hc3)))
 ·simp only [bne_eq_false_iff_eq] at hc
  simp only [decide_eq_false_iff_not] at hc2 hc3
  have hz := checkCo_zero.1 (show checkCo ⟨n, r, p, dl, d.to Int, s.to Bool, v⟩ = 0 from hc)
  have l1 := D.Is.length (α := Int) d
  have l2 := D.Is.length (α := Bool) s
  exact ⟨⟨hd, by omega⟩, ⟨hs, by omega⟩, by omega, fun h2 => ret_co2 (stands_rows rfl (rows_of hd)) (stands_rows rfl (rows_of hs)) lb_den stands_like (exp_ok hc hc2 hc3)⟩

theorem lawExp2 : Law Try.prog 30 ((rdCo.two rdInt).sp spExp) := by
 refine law_in _ (by kernel_rfl) fun H w ⟨⟨n, r, p, dl, d, s, v⟩, now⟩ hok hp => ?_
 obtain ⟨hd, hs⟩ := hp _ (List.mem_singleton.2 rfl)
 simp only at hd hs
 apply exec_sound ctMOk 600
 rw [show (rdCo.two rdInt).canon (⟨n, r, p, dl, d, s, v⟩, now) = [.agg [.int .i64 n, .int .i64 r, .int .i64 p, .int .i64 dl, .dat d, .dat s, .bool v], .int .i64 now] from rfl, exp2_in]
 refine ⟨⟨hd, hs⟩, fun hc => ?_, fun hc => ⟨fun hc2 => ?_, fun hc2 => ⟨fun hc3 => ?_, fun hc3 => ?_⟩⟩⟩
 ·simp only [bne_iff_ne, ne_eq] at hc
  exact ret_co2 (stands_self hd) (stands_self hs) (fun _ => rfl) stands_nils (exp_bad (.inl hc))
 ·simp only [decide_eq_true_eq] at hc2
  exact ret_co2 (stands_self hd) (stands_self hs) (fun _ => rfl) stands_nils (exp_bad (.inr (.inl hc2)))
 ·simp only [decide_eq_true_eq] at hc3
  exact ret_co2 (stands_self hd) (stands_self hs) (fun _ => rfl) stands_nils (exp_bad (.inr (.inr hc3)))
 ·simp only [bne_eq_false_iff_eq] at hc
  simp only [decide_eq_false_iff_not] at hc2 hc3
  have hz := checkCo_zero.1 (show checkCo ⟨n, r, p, dl, d.to Int, s.to Bool, v⟩ = 0 from hc)
  exact ⟨⟨hd, hs, by omega⟩, fun h2 => ret_co2 stands_like stands_like (fun _ => rfl) stands_like (exp_ok hc hc2 hc3)⟩
end Go.Proofs.Ytoechplbhbalaaa
end
section
namespace Sx
open Go
def atDst (c : Conf) : Option (FuncId × Nat) :=
 match c.top.ri with
 | some _ => none
 | none => match c.top.todo with
  | .code (.region _ ops _) :: _ => match ops[0]? with
   | some o => match o.dst with
    | some d => some (c.top.fn, d)
    | none => none
   | none => none
  | _ => none

def restsAt (l : List (FuncId × Nat)) (c : Conf) : Bool :=
 match atDst c with
 | some (f, d) => l.any fun x => x.1 == f && x.2 == d
 | none => false
def liveW (P : Program) (g : SFrm) : List Nat :=
 let out := (liveI (retN P g.fn) g.todo).1
 let live := match g.ri with
  | some (ops, l) => liveOps ops (l.filterMap fun i => ops[i]?) out
  | none => out
 match g.await with
 | some t => live.filter (· != t)
 | none => live
def fgtR (P : Program) (c : Conf) : Conf :=
 match c.rest with
 | [] => c
 | g :: r =>
  let n := 1000 * r.length
  let live := liveW P g
  if keptOk n live 0 g.tmps && c.mem.all (fun e => !e.2.jk n) && r.all (fun f => !SV.jkL n f.tmps) && !SV.jkL n c.top.tmps then
   { c with rest := { g with tmps := maskT n live 0 g.tmps } :: r }
  else c

theorem fgtR_sound {P : Program} {C : Ctx} {R : Value → World → Prop} {c : Conf} (h : Runs P C (fgtR P c) R) : Runs P C c R := by
 obtain ⟨top, rest, mem⟩ := c
 unfold fgtR at h
 simp only at h
 cases rest with
 | nil => exact h
 | cons g r =>
  simp only at h
  split at h
  ·rename_i hc
   simp only [Bool.and_eq_true, Bool.not_eq_true'] at hc
   obtain ⟨⟨⟨h1, h2⟩, h3⟩, h4⟩ := hc
   intro E H w gd ok
   let n := 1000 * r.length
   let E' : Env := ⟨E.b, E.v, fun i => if i < n then E.j i else ((SV.denL E g.tmps)[i - n]?).getD Go.undef⟩
   have hs : Same n E E' := ⟨rfl, rfl, fun i hi => by simp [E', hi]⟩
   have hg := gd.same' hs (fun x hx => by have := List.all_eq_true.1 h2 x hx; simpa using this)
   have hr := h E' H w hg ⟨ok.1, fun f hf => by
    rcases List.mem_cons.1 hf with rfl | hf
    ·exact maskT_ok _ _ _ (ok.2 g (by simp))
    ·exact ok.2 f (by simp [hf])⟩
   have e1 : SV.denL E' (maskT n (liveW P g) 0 g.tmps) = SV.denL E g.tmps := by
    refine maskT_den hs _ _ 0 h1 (fun i v hv => ?_)
    simp only [E', Nat.zero_add]
    rw [if_neg (by omega), show n + i - n = i from by omega, SV.denL_eq, List.getElem?_map, hv]
    rfl
   have e2 : r.map (SFrm.den E') = r.map (SFrm.den E) := by
    apply List.map_congr_left
    intro f hf
    have := List.all_eq_true.1 h3 f hf
    simp only [Bool.not_eq_true'] at this
    simp [SFrm.den, denL_same hs _ this]
   have e3 : SFrm.den E' top = top.den E := by simp [SFrm.den, denL_same hs _ h4]
   have e4 : SFrm.den E' { g with tmps := maskT n (liveW P g) 0 g.tmps } = g.den E := by
    simp only [SFrm.den]; rw [e1]
   simp only [List.map_cons] at hr ⊢
   rw [e2, e3] at hr
   rw [show SFrm.den E' { g with tmps := maskT (1000 * r.length) (liveW P g) 0 g.tmps } = g.den E from e4] at hr
   exact hr
  ·exact h
noncomputable def restC (P : Program) (c : Conf) : Tree := headC P (fgtR P c) leafR
noncomputable def execS (P : Program) (cs : Ctrs) (U : FuncId → Bool) (S : List (FuncId × Nat)) (n : Nat) : Conf → Tree :=
 Nat.rec (motive := fun _ => Conf → Tree) (fun _ => .stuck) (fun _ ih c => match restsAt S c with
  | true => restC P c
  | false => stepC P cs U ih c) n
noncomputable def goS (P : Program) (cs : Ctrs) (U : FuncId → Bool) (S : List (FuncId × Nat)) (n : Nat) (c : Conf) : Tree := stepC P cs U (execS P cs U S n) c

section
variable {P : Program} {C : Ctx} {R : Value → World → Prop} {cs : Ctrs}
theorem execS_sound (hcs : cs.Ok P) (U : FuncId → Bool) (S : List (FuncId × Nat)) : ∀ (n : Nat) (c : Conf), (execS P cs U S n c).holds P C R → Runs P C c R
 | 0, _, h => h.elim
 | n + 1, c, h => by
  have e : execS P cs U S (n + 1) c = match restsAt S c with
   | true => restC P c
   | false => stepC P cs U (execS P cs U S n) c := rfl
  rw [e] at h
  cases hr : restsAt S c with
  | true => rw [hr] at h; exact fgtR_sound (headR_sound h)
  | false => rw [hr] at h; exact step_sound (U := U) hcs (fun c h => execS_sound hcs U S n c h) c h
theorem goS_sound (hcs : cs.Ok P) (U : FuncId → Bool) (S : List (FuncId × Nat)) (n : Nat) (c : Conf) (h : (goS P cs U S n c).holds P C R) : Runs P C c R :=
 step_sound (U := U) hcs (fun c h => execS_sound hcs U S n c h) c h
end

/-! A cell that is known to be true. -/
def lbIn (b off : Nat) (c : Conf) : Option Conf :=
 match c.mem.get b with
 | some (.cells t cs) => match cs[off]? with
  | some (.bool true) => some ⟨c.top, c.rest, c.mem.set b (.cells t (cs.set off (.lb true)))⟩
  | _ => none
 | _ => none


end Sx
end
